-- Written by this project's own program (wip/tools/hp.py), driving the kit's print; hand texts among it. Not trusted: Lean checks it.
-- half the indentation
import Derived.Test.YtomjppafgalaoaaDoorThin
import Derived.Test.YtomjppafgalaoaaDoorP0
import Derived.Test.YtomjppafgalaoaaDoorP21
import Derived.Test.YtomjppafgalaoaaDoorP22
namespace Go.Proofs.YtomjppafgalaoaaDoor.P
open Go.RowKit Go.Proofs.YtomjppafgalaoaaDoorW.PrintWords Go.Proofs.YtomjppafgalaoaaDoorW.PrintLast Go.Proofs.YtomjppafgalaoaaDoorW.PrintMore
attribute [local go_sem] max2_int min2_int max_two min_two max_three min_three max_four min_four   -- for this text's walks alone
set_option linter.unusedVariables false
set_option linter.unusedSimpArgs false

-- HAND: slices_Clone_string_string: with the text above

/-! ### store_own: function 19 -/
def store_own.f (l0_0 : List (S27)) (l0_1 : List ByteArray) : Option ((List (S27)) × List ByteArray) := (api_Node_31.f l0_0).bind fun bO => ((slices_Clone_string_string.f l0_1).bind fun bP => (some (bO, bP)))
def store_own.T1 : Bool × List (List Nat × List Nat) := (true, [([], []), ([0], [0]), ([1], [1]), ([], []), ([3], [3]), ([4, 2], [4]), ([2, 5], [2, 5]), ([6, 5, 0, 1, 2, 3, 4, 5, 6], [6])])
def store_own.B1 : List Nat := [0, 1, 3, 0, 8, 31, 63, 127]
theorem store_own.tab1 : rtab .any (opsOf Tryd.f19 1) = store_own.T1 := by kernel_rfl
theorem store_own.bits1 : waitsOk store_own.T1.2 store_own.B1 = true := by kernel_rfl
set_option maxHeartbeats 8000000 in
set_option maxRecDepth 100000 in
theorem store_own.calls (aq : Option Addr) (ar : Nat) (l0_0 : List (S27)) (au : Option Addr) (av : Nat) (l0_1 : List ByteArray) (r1 : List (S27)) (r2 : List ByteArray) (w : World) (hr0_0 : Kd.C k27 w aq l0_0.length l0_0) (hc0_0 : l0_0.length ≤ ar) (hr0_1 : Kd.C Kd.string w au l0_1.length l0_1) (hc0_1 : l0_1.length ≤ av) (h : store_own.f l0_0 l0_1 = some (r1, r2)) :
  Calls Tryd.prog 19 #[.agg #[.slice aq l0_0.length ar, .slice au l0_1.length av]] w fun e w' => ∃ v0_ v1_ : Value, e = .returned (.agg #[v0_, v1_]) ∧ Kd.R k27 27 w' w.heap.size (fun _ => True) v0_ r1 ∧ Kd.R Kd.string 9 w' w.heap.size (fun _ => True) v1_ r2 ∧ Below w.heap.size w w' := by
 have hu25 := Tryd.underlying25
 have b2 := Aside0.mk hr0_0
 have b3 := Aside0.mk hc0_0
 clear hr0_0 hc0_0
 have bX := Aside0.mk hr0_1
 have b4 := Aside0.mk hc0_1
 clear hr0_1 hc0_1
 have HB := am (Below.refl w.heap.size w)
 have H : ((api_Node_31.f l0_0).bind fun bO => ((slices_Clone_string_string.f l0_1).bind fun bP => (some (bO, bP)))) = some (r1, r2) := h
 clear h
 replace H := Option.bind_eq_some_iff.mp H
 obtain ⟨bO, A20, H⟩ := H
 replace H : ((slices_Clone_string_string.f l0_1).bind fun bP => (some (bO, bP))) = some (r1, r2) := H
 have A2 := Aside0.mk A20
 clear A20
 replace H := Option.bind_eq_some_iff.mp H
 obtain ⟨bP, A30, H⟩ := H
 replace H : (some (bO, bP)) = some (r1, r2) := H
 have A3 := Aside0.mk A30
 clear A30
 simp only [Option.some.injEq, Prod.mk.injEq] at H
 obtain ⟨rfl, rfl⟩ := H
 go_enter Tryd.func19, Tryd.ntmps19
 try go_wp2_with (first | ((with_reducible refine gate_dst (N := 1) rfl ?_); refine box_event ?hg (N := 1) ?hd (cs := #[.slice aq l0_0.length ar, .slice au l0_1.length av]) (t := 25) ?hr ?_; (case hd => rfl); (case hg => rfl); (case hr => first | (go_simp; done) | (go_simp; rfl)); intro c1 hg w4 hbox hb; have aQ := am (hbox); have f5 := am ((gT hg HB.out)); have f6 := am ((gT hg HB.out)); replace HB := am (sT HB.out hb); clear hb hbox hg) | ((with_reducible refine gate_dst (N := 2) rfl ?_); refine box_event ?hg (N := 2) ?hd (cs := #[.slice none 0 0, .slice none 0 0]) (t := 25) ?hr ?_; (case hd => rfl); (case hg => rfl); (case hr => first | (go_simp; done) | (go_simp; rfl)); intro bG hg w5 hbox hb; have aX := am (hbox); have f7 := am ((gT hg HB.out)); have f8 := am ((gT hg HB.out)); have a9 := am ((nT aQ.out hg)); have bZ := am ((mT aQ.out hg)); replace aQ := am (bB aQ.out hb); replace HB := am (sT HB.out hb); clear hb hbox hg))
 have n0_ := am (blk_drew aQ.out)
 have n1_ := am (blk_drew aX.out)
 have n2_ := am (below_drew1 HB.out)
 clear aQ aX HB
 have aQ := n0_
 have aX := n1_
 have HB := n2_
 clear n0_ n1_ n2_
 refine start_ (n := 8) (S := fun w' => w'.cell? ⟨c1, 0, none⟩ = some (.slice aq l0_0.length ar) ∧ w'.cell? ⟨c1, 1, none⟩ = some (.slice au l0_1.length av)) (ds := []) #[false, false, false, false, false, false, false, false] (by kernel_rfl) rfl rfl ⟨(blk_cell aQ.out 0).trans rfl, (blk_cell aQ.out 1).trans rfl⟩ (fun hHeld => ?_); refine with_tabW store_own.tab1 store_own.bits1 (fun HT_ HW_ => ?_)
 generalize w5.drew = w6 at aQ aX HB hHeld ⊢
 refine pure_ (i := 0) (N := some 3) (v := ?_) (a' := ?_) #[true, false, false, false, false, false, false, false] rfl rfl (any_of HT_.out (by kernel_rfl)) (fun _ _ _ h => h) (Or.inl ⟨by rfl, ?_⟩) ?_ ?_
 rotate_left
 ·intro w'
  go_simp
  with_reducible rfl
 rotate_left
 ·simp only [pS]
  rfl
 refine pure_ (i := 3) (N := some 6) (v := ?_) (a' := ?_) #[true, false, false, true, false, false, false, false] rfl rfl (any_of HT_.out (by kernel_rfl)) (fun _ _ _ h => h) (Or.inl ⟨by rfl, ?_⟩) ?_ ?_
 rotate_left
 ·intro w'
  go_simp
  with_reducible rfl
 rotate_left
 ·simp only [pS]
  rfl
 refine take_ (i := 1) (N := some 4) (v := ?_) (a' := ?_) #[true, true, false, true, false, false, false, false] rfl rfl (take_ofW HT_.out HW_.out (by kernel_rfl)) (fun _ _ _ h => h) (Or.inl ⟨by rfl, ?_⟩) hHeld ?_ ?_
 rotate_left
 ·rintro w' ⟨s0, s1⟩
  go_simp
  with_reducible rfl
 rotate_left
 ·simp only [pS]
  rfl
 refine take_ (i := 4) (N := some 7) (v := ?_) (a' := ?_) #[true, true, false, true, true, false, false, false] rfl rfl (take_ofW HT_.out HW_.out (by kernel_rfl)) (fun _ _ _ h => h) (Or.inl ⟨by rfl, ?_⟩) hHeld ?_ ?_
 rotate_left
 ·rintro w' ⟨s0, s1⟩
  go_simp
  with_reducible rfl
 rotate_left
 ·simp only [pS]
  rfl
 refine one_ (i := 2) (N := some 5) #[true, true, true, true, true, false, false, false] rfl rfl (one_of HT_.out (by kernel_rfl)) (by decide) (fun K hK => ?_)
 refine goes_ Tryd.func31 (by kernel_rfl) rfl #[.slice aq l0_0.length ar] (by rfl) rfl rfl (by (try simp only [List.map_toArray, List.map_cons, List.map_nil]); first | done | rfl | (simp only [List.length_drop, List.length_take]; rfl)) ?_
 with_reducible refine (api_Node_31.calls _ _ l0_0 bO _ ?side1 ?side2 A2.out).mono ?_
 (case side1 => repeat (first | exact (Kd.C_below b2.out HB.out) | (with_reducible refine Kd.C_alloc ?_ _) | (with_reducible refine Kd.C_drewN ?_ _) | (with_reducible refine Kd.C_drew ?_)))
 (case side2 => exact b3.out)
 rintro e w7 ⟨gG, rfl, ho0, hb⟩
 refine ⟨_, rfl, ?_⟩
 have n0_ := am (Kd.R_lower ho0 (below_size (eT HB.out)))
 have n1_ := am (bB aQ.out hb)
 have n2_ := am (bB aX.out hb)
 have n3_ := am (sT HB.out hb)
 clear aQ aX HB
 have b5 := n0_
 have aQ := n1_
 have aX := n2_
 have HB := n3_
 clear n0_ n1_ n2_ n3_
 (try clear hb)
 (try clear hb2)
 (try clear hk)
 (try clear hi)
 (try clear ho0)
 refine hK.out _ _ ⟨(blk_cell aQ.out 0).trans rfl, (blk_cell aQ.out 1).trans rfl⟩ (fun hHeld => ?_)
 clear hK K
 refine norm_ (a' := ?_) ?_ ?_
 rotate_left
 ·show Act.put _ (some 5) _ = _
  simp only [pS]
  rfl
 refine one_ (i := 5) (N := some 8) #[true, true, true, true, true, true, false, false] rfl rfl (one_of HT_.out (by kernel_rfl)) (by decide) (fun K hK => ?_)
 refine goes_ Tryd.func32 (by kernel_rfl) rfl #[.slice au l0_1.length av] (by rfl) rfl rfl (by (try simp only [List.map_toArray, List.map_cons, List.map_nil]); first | done | rfl | (simp only [List.length_drop, List.length_take]; rfl)) ?_
 with_reducible refine (slices_Clone_string_string.calls _ _ l0_1 bP _ ?side1 ?side2 A3.out).mono ?_
 (case side1 => repeat (first | exact (Kd.C_below bX.out HB.out) | (with_reducible refine Kd.C_alloc ?_ _) | (with_reducible refine Kd.C_drewN ?_ _) | (with_reducible refine Kd.C_drew ?_)))
 (case side2 => exact b4.out)
 rintro e w8 ⟨gH, rfl, ho0, hb⟩
 refine ⟨_, rfl, ?_⟩
 have n0_ := am (rB b5.out hb)
 have n1_ := am (Kd.R_lower ho0 (below_size (eT HB.out)))
 have n2_ := am (bB aQ.out hb)
 have n3_ := am (bB aX.out hb)
 have n4_ := am (sT HB.out hb)
 clear b5 aQ aX HB
 have b5 := n0_
 have c3 := n1_
 have aQ := n2_
 have aX := n3_
 have HB := n4_
 clear n0_ n1_ n2_ n3_ n4_
 (try clear hb)
 (try clear hb2)
 (try clear hk)
 (try clear hi)
 (try clear ho0)
 obtain ⟨Ao9, co9, eo9⟩ := Kd.R_slice c3.out
 (first | subst eo9 | (injection eo9 with f1_ f2_ f3_; have f4_ := f1_.symm; have f5_ := f3_.symm; clear f1_ f2_ f3_; subst f4_; subst f5_))
 obtain ⟨cu, ci, cj⟩ := Kd.R_slice b5.out
 (first | subst cj | (injection cj with f1_ f2_ f3_; have f4_ := f1_.symm; have f5_ := f3_.symm; clear f1_ f2_ f3_; subst f4_; subst f5_))
 refine hK.out _ _ ⟨(blk_cell aQ.out 0).trans rfl, (blk_cell aQ.out 1).trans rfl⟩ (fun hHeld => ?_)
 clear hK K
 refine norm_ (a' := ?_) ?_ ?_
 rotate_left
 ·show Act.put _ (some 8) _ = _
  simp only [pS]
  rfl
 refine pure_ (i := 6) (N := some 9) (v := ?_) (a' := ?_) #[true, true, true, true, true, true, true, false] rfl rfl (any_of HT_.out (by kernel_rfl)) (fun _ _ _ h => h) (Or.inl ⟨by rfl, ?_⟩) ?_ ?_
 rotate_left
 ·intro w'
  go_simp
  with_reducible rfl
 rotate_left
 ·simp only [pS]
  rfl
 refine one_ (i := 7) (N := none) #[true, true, true, true, true, true, true, true] rfl rfl (one_of HT_.out (by kernel_rfl)) (by decide) (fun K hK => ?_)
 have gI : w8.cell? ⟨bG, 0, none⟩ = some (.slice none 0 0) := (blk_cell aX.out 0).trans rfl
 have f_ := blk_frozen aX.out 0
 have d4 := a9.out
 have d5 := bZ.out
 have gJ : w8.cell? ⟨bG, 1, none⟩ = some (.slice none 0 0) := (blk_cell aX.out 1).trans rfl
 have ga := blk_frozen aX.out 1
 have d6 := a9.out
 have d7 := bZ.out
 refine skip_ (w1 := ?_) (by rfl) rfl ?_ ?_
 rotate_left
 ·go_simp
  rfl
 refine hK.out _ _ ⟨((cell_far (p := ⟨bG, _, none⟩) a9.out _).trans (((cell_far (p := ⟨bG, _, none⟩) a9.out _).trans (hHeld.1)))), ((cell_far (p := ⟨bG, _, none⟩) a9.out _).trans (((cell_far (p := ⟨bG, _, none⟩) a9.out _).trans (hHeld.2))))⟩ (fun hHeld => ?_)
 clear hK K
 refine done_ (done_of HT_.out (by kernel_rfl)) ?_
 try go_wp2
 refine bodyPost_ret (results_cell_row rfl _ _ bG 25 #[.slice cu bO.length ci, .slice Ao9 bP.length co9] (0, 0) _ rfl (by (with_reducible repeat (first | apply bn | apply bd | apply ba)); refine blk_put (cs := #[.slice cu bO.length ci, .slice none 0 0]) ?_ 1 _ rfl; (with_reducible repeat (first | apply bn | apply bd | apply ba)); refine blk_put (cs := #[.slice none 0 0, .slice none 0 0]) ?_ 0 _ rfl; exact bT aX.out) Tryd.underlying25 rfl (by kernel_rfl)) rfl ?_
 exact ⟨_, _, by first | rfl | (simp [errW_none, errW_some] <;> rfl) | (simp [*, errW_none, errW_some] <;> rfl), by (with_reducible repeat (first | apply Kd.R_alloc | apply Kd.R_drewN | apply Kd.R_drew)); exact Kd.R_mono (Kd.R_far (p := ⟨bG, 1, none⟩) (Kd.R_far (p := ⟨bG, 0, none⟩) (Kd.R_types b5.out aX.out (by decide)) (fun _ hk => hk.2) (.slice cu bO.length ci)) (fun _ hk => hk.2) (.slice Ao9 bP.length co9)) (fun _ hk => trivial), by (with_reducible repeat (first | apply Kd.R_alloc | apply Kd.R_drewN | apply Kd.R_drew)); exact Kd.R_mono (Kd.R_far (p := ⟨bG, 1, none⟩) (Kd.R_far (p := ⟨bG, 0, none⟩) (Kd.R_types c3.out aX.out (by decide)) (fun _ hk => hk.2) (.slice cu bO.length ci)) (fun _ hk => hk.2) (.slice Ao9 bP.length co9)) (fun _ hk => trivial), by repeat (first | (with_reducible first | exact HB.out | apply pA | apply pN | apply pD | refine eU ?_ (by assumption)) | exact HB.out)⟩

-- HAND: api_Node_20: with the text above

-- HAND: slices_Insert_string_string: with the text above

/-! ### store_Put: function 9 -/
def store_Put.f (k : Nat) (l0_0 : List (S27)) (l0_1 : List ByteArray) (a1_0 : ByteArray) (a1_1 : ByteArray) (a2 : ByteArray) : Option ((List (S27)) × List ByteArray × Int) := (store_find.f k l0_0 l0_1 a1_0 a1_1).bind fun bt264 => (if bt264.2.2 = 0 then ((store_own.f l0_0 l0_1).bind fun bt267 => (if bt264.2.1 = true then (if 0 ≤ bt264.1 then (if bt264.1 < (bt267.2.length : Int) then (some (bt267.1, (bt267.2.set (bt264.1 : Int).toNat a2), 0)) else (none)) else (none)) else ((api_Node_20.f bt267.1 bt264.1 (([(⟨a1_0, a1_1⟩ : S27)] : List (S27)))).bind fun aY => ((slices_Insert_string_string.f bt267.2 bt264.1 (([a2] : List ByteArray))).bind fun a_ => (some (aY, a_, 0)))))) else (some (l0_0, l0_1, bt264.2.2)))
theorem store_Put.mono : ∀ a0 a1 a2 a3 a4 k, LeO (store_Put.f k a0 a1 a2 a3 a4) (store_Put.f (k + 1) a0 a1 a2 a3 a4) := by
 intro a0 a1 a2 a3 a4 k
 unfold store_Put.f
 repeat' first
   | (with_reducible exact store_find.mono _ _ _ _ _)
   | (with_reducible exact LeO.refl _)
   | (with_reducible exact LeO.none _)
   | (with_reducible refine LeO.ite ?_ ?_)
   | (with_reducible refine LeO.bind ?_ (fun _ => ?_))
   | exact store_find.mono _ _ _ _ _
   | exact LeO.none _
   | refine LeO.ite ?_ ?_
   | refine LeO.bind ?_ (fun _ => ?_)
def store_Put.T8 : Bool × List (List Nat × List Nat) := (true, [([], []), ([0], [0]), ([], []), ([], []), ([3], [3]), ([1, 2, 4], [1, 2, 4]), ([], []), ([6], [6]), ([], []), ([], []), ([9], [9]), ([7, 8, 10, 5], [7, 8, 10]), ([0, 1, 2, 3, 4, 5, 6, 7], []), ([12, 5, 11, 0, 1, 2, 3, 4, 5, 6, 7], [5, 12]), ([0, 1, 2, 3, 4, 5, 6, 7, 8, 9, 10, 11, 12, 13], []), ([14, 11, 13, 0, 1, 2, 3, 4, 5, 6, 7, 8, 9, 10, 11, 12, 13], [11, 14])])
def store_Put.B8 : List Nat := [0, 1, 0, 0, 8, 31, 0, 64, 0, 0, 512, 2047, 255, 8191, 16383, 32767]
theorem store_Put.tab8 : rtab .any (opsOf Tryd.f9 8) = store_Put.T8 := by kernel_rfl
theorem store_Put.bits8 : waitsOk store_Put.T8.2 store_Put.B8 = true := by kernel_rfl
set_option maxHeartbeats 8000000 in
set_option maxRecDepth 100000 in
theorem store_Put.calls (k : Nat) (P0_0_ : Nat → Prop) (aq : Option Addr) (ar : Nat) (l0_0 : List (S27)) (P0_1_ : Nat → Prop) (au : Option Addr) (av : Nat) (l0_1 : List ByteArray) (a1_0 : ByteArray) (a1_1 : ByteArray) (a2 : ByteArray) (r1 : List (S27)) (r2 : List ByteArray) (r3 : Int) (w : World) (ck : Kd.V k27 27 w w.heap.size (fun k_ => P0_0_ k_) (.slice aq l0_0.length ar) l0_0) (cl : Kd.V Kd.string 9 w w.heap.size (fun k_ => P0_1_ k_) (.slice au l0_1.length av) l0_1) (h : store_Put.f k l0_0 l0_1 a1_0 a1_1 a2 = some (r1, r2, r3)) :
  Calls Tryd.prog 9 #[.agg #[.slice aq l0_0.length ar, .slice au l0_1.length av], .agg #[.string a1_0, .string a1_1], .string a2] w fun e w' => ∃ v0_ v1_ : Value, e = .returned (.tuple #[.agg #[v0_, v1_], .int .i64 r3]) ∧ Kd.V k27 27 w' w.heap.size (fun k_ => ((P0_0_ k_ ∨ P0_1_ k_) ∨ w.heap.size ≤ k_)) v0_ r1 ∧ Kd.V Kd.string 9 w' w.heap.size (fun k_ => ((P0_0_ k_ ∨ P0_1_ k_) ∨ w.heap.size ≤ k_)) v1_ r2 ∧ Below w.heap.size w w' := by
 have hu25 := Tryd.underlying25
 have hu27 := Tryd.underlying27
 have aa := am (show Kd.V k27 27 w w.heap.size (fun k_ => ((P0_0_ k_ ∨ P0_1_ k_) ∨ w.heap.size ≤ k_)) (.slice aq l0_0.length ar) l0_0 from Kd.V_mono ck (fun k_ hk => .inl (.inl hk)))
 have ab := am (show Kd.V Kd.string 9 w w.heap.size (fun k_ => ((P0_0_ k_ ∨ P0_1_ k_) ∨ w.heap.size ≤ k_)) (.slice au l0_1.length av) l0_1 from Kd.V_mono cl (fun k_ hk => .inl (.inr hk)))
 have HB := am (Below.refl w.heap.size w)
 have H : ((store_find.f k l0_0 l0_1 a1_0 a1_1).bind fun bt264 => (if bt264.2.2 = 0 then ((store_own.f l0_0 l0_1).bind fun bt267 => (if bt264.2.1 = true then (if 0 ≤ bt264.1 then (if bt264.1 < (bt267.2.length : Int) then (some (bt267.1, (bt267.2.set (bt264.1 : Int).toNat a2), 0)) else (none)) else (none)) else ((api_Node_20.f bt267.1 bt264.1 (([(⟨a1_0, a1_1⟩ : S27)] : List (S27)))).bind fun aY => ((slices_Insert_string_string.f bt267.2 bt264.1 (([a2] : List ByteArray))).bind fun a_ => (some (aY, a_, 0)))))) else (some (l0_0, l0_1, bt264.2.2)))) = some (r1, r2, r3) := h
 clear h
 replace H := Option.bind_eq_some_iff.mp H
 obtain ⟨⟨aF, cv, bS⟩, A40, H⟩ := H
 replace H : (if bS = 0 then ((store_own.f l0_0 l0_1).bind fun bt267 => (if cv = true then (if 0 ≤ aF then (if aF < (bt267.2.length : Int) then (some (bt267.1, (bt267.2.set (aF : Int).toNat a2), 0)) else (none)) else (none)) else ((api_Node_20.f bt267.1 aF (([(⟨a1_0, a1_1⟩ : S27)] : List (S27)))).bind fun aY => ((slices_Insert_string_string.f bt267.2 aF (([a2] : List ByteArray))).bind fun a_ => (some (aY, a_, 0)))))) else (some (l0_0, l0_1, bS))) = some (r1, r2, r3) := H
 have A4 := Aside0.mk A40
 clear A40
 by_cases c5 : bS = 0
 ·rw [if_pos c5] at H
  have fT : (bS == 0) = true := beq_iff_eq.mpr c5
  have fU : (bS != 0) = false := bne_eq_false_iff_eq.mpr c5
  clear c5
  replace H := Option.bind_eq_some_iff.mp H
  obtain ⟨⟨ay, al⟩, A60, H⟩ := H
  replace H : (if cv = true then (if 0 ≤ aF then (if aF < (al.length : Int) then (some (ay, (al.set (aF : Int).toNat a2), 0)) else (none)) else (none)) else ((api_Node_20.f ay aF (([(⟨a1_0, a1_1⟩ : S27)] : List (S27)))).bind fun aY => ((slices_Insert_string_string.f al aF (([a2] : List ByteArray))).bind fun a_ => (some (aY, a_, 0))))) = some (r1, r2, r3) := H
  have A6 := Aside0.mk A60
  clear A60
  by_cases c7 : cv = true
  ·subst c7
   have H1 : (if 0 ≤ aF then (if aF < (al.length : Int) then (some (ay, (al.set (aF : Int).toNat a2), 0)) else (none)) else (none)) = some (r1, r2, r3) := by rw [if_pos rfl] at H; exact H
   clear H
   have H := H1
   clear H1
   by_cases c8 : 0 ≤ aF
   ·rw [if_pos c8] at H
    have gK : decide (0 ≤ aF) = true := decide_eq_true c8
    clear c8
    by_cases c9 : aF < (al.length : Int)
    ·rw [if_pos c9] at H
     have gL : decide (aF < (al.length : Int)) = true := decide_eq_true c9
     clear c9
     obtain ⟨dy, b6⟩ : ∃ y_ : List ByteArray, y_ = (al.set (aF : Int).toNat a2) := ⟨_, rfl⟩
     replace H : (some (ay, dy, 0)) = some (r1, r2, r3) := by first | (rw [b6]; with_reducible exact H) | (have H2_ := (Option.bind_some _ _).symm.trans H; rw [b6]; with_reducible exact H2_) | (have H2_ := (Option.bind_some _ _).symm.trans H; with_reducible exact H2_) | with_reducible exact H | (rw [b6]; exact H) | exact H
     have Ny274 := Aside0.mk b6
     clear b6
     simp only [Option.some.injEq, Prod.mk.injEq] at H
     obtain ⟨rfl, rfl, rfl⟩ := H
     go_enter Tryd.func9, Tryd.ntmps9
     go_wp2_with (first | ((with_reducible refine gate_dst (N := 3) rfl ?_); refine box_event ?hg (N := 3) ?hd (cs := #[.slice aq l0_0.length ar, .slice au l0_1.length av]) (t := 25) ?hr ?_; (case hd => rfl); (case hg => rfl); (case hr => first | (go_simp; done) | (go_simp; rfl)); intro ax hg w11 hbox hb; replace aa := am (Kd.V_below (Kd.V_elderB (vT aa.out) ax (Nat.le_of_eq hg.symm)) hb); replace ab := am (Kd.V_below (Kd.V_elderB (vT ab.out) ax (Nat.le_of_eq hg.symm)) hb); have ac := am (hbox); have c_ := am ((by rw [hg]; exact (below_size (by repeat (first | (with_reducible first | exact HB.out | apply pA | apply pN | apply pD) | exact HB.out))) : w.heap.size ≤ ax)); have da := am ((by rw [hg]; exact (below_size (by repeat (first | (with_reducible first | exact HB.out | apply pA | apply pN | apply pD) | exact HB.out))) : w.heap.size ≤ ax)); replace HB := am (below_step (by repeat (first | (with_reducible first | exact HB.out | apply pA | apply pN | apply pD) | exact HB.out)) hb); clear hb hbox hg) | ((with_reducible refine gate_dst (N := 4) rfl ?_); refine box_event ?hg (N := 4) ?hd (cs := #[.string a1_0, .string a1_1]) (t := 27) ?hr ?_; (case hd => rfl); (case hg => rfl); (case hr => first | (go_simp; done) | (go_simp; rfl)); intro aj hg w12 hbox hb; replace aa := am (Kd.V_below (Kd.V_elderB (vT aa.out) aj (Nat.le_of_eq hg.symm)) hb); replace ab := am (Kd.V_below (Kd.V_elderB (vT ab.out) aj (Nat.le_of_eq hg.symm)) hb); have ad := am (hbox); have db := am ((by rw [hg]; exact (below_size (by repeat (first | (with_reducible first | exact HB.out | apply pA | apply pN | apply pD | refine eU ?_ (by assumption)) | exact HB.out))) : w.heap.size ≤ aj)); have dc := am ((by rw [hg]; exact (below_size (by repeat (first | (with_reducible first | exact HB.out | apply pA | apply pN | apply pD | refine eU ?_ (by assumption)) | exact HB.out))) : w.heap.size ≤ aj)); have bg := am ((nT ac.out hg)); have bh := am ((mT ac.out hg)); replace ac := am (bB ac.out hb); replace HB := am (below_step (by repeat (first | (with_reducible first | exact HB.out | apply pA | apply pN | apply pD | refine eU ?_ (by assumption)) | exact HB.out)) hb); clear hb hbox hg) | ((with_reducible refine gate_dst (N := 6) rfl ?_); refine box_event ?hg (N := 6) ?hd (cs := #[.slice none 0 0, .slice none 0 0]) (t := 25) ?hr ?_; (case hd => rfl); (case hg => rfl); (case hr => first | (go_simp; done) | (go_simp; rfl)); intro an hg w13 hbox hb; replace aa := am (Kd.V_below (Kd.V_elderB (vT aa.out) an (Nat.le_of_eq hg.symm)) hb); replace ab := am (Kd.V_below (Kd.V_elderB (vT ab.out) an (Nat.le_of_eq hg.symm)) hb); have ag := am (hbox); have dd := am ((by rw [hg]; exact (below_size (by repeat (first | (with_reducible first | exact HB.out | apply pA | apply pN | apply pD | refine eU ?_ (by assumption)) | exact HB.out))) : w.heap.size ≤ an)); have de := am ((by rw [hg]; exact (below_size (by repeat (first | (with_reducible first | exact HB.out | apply pA | apply pN | apply pD | refine eU ?_ (by assumption)) | exact HB.out))) : w.heap.size ≤ an)); have bi := am ((nT ac.out hg)); have bj := am ((mT ac.out hg)); have bk := am ((nT ad.out hg)); have bl := am ((mT ad.out hg)); replace ac := am (bB ac.out hb); replace ad := am (bB ad.out hb); replace HB := am (below_step (by repeat (first | (with_reducible first | exact HB.out | apply pA | apply pN | apply pD | refine eU ?_ (by assumption)) | exact HB.out)) hb); clear hb hbox hg; have gb := bg.out; have gc := bh.out; have dz := bi.out; have dA := bj.out; have cw : w13.cell? ⟨ax, 0, none⟩ = some (.slice aq l0_0.length ar) := (blk_cell ac.out 0).trans rfl; have cx : w13.cell? ⟨ax, 1, none⟩ = some (.slice au l0_1.length av) := (blk_cell ac.out 1).trans rfl; have cy := blk_frozen ac.out 0; have cz := blk_frozen ac.out 1; have dB := bk.out; have dC := bl.out; have ca : w13.cell? ⟨aj, 0, none⟩ = some (.string a1_0) := (blk_cell ad.out 0).trans rfl; have cb : w13.cell? ⟨aj, 1, none⟩ = some (.string a1_1) := (blk_cell ad.out 1).trans rfl; have cc := blk_frozen ad.out 0; have cd := blk_frozen ad.out 1) | ((with_reducible refine gate_callee (f := 18) rfl ?_); refine goesL_ (some 15) rfl rfl Tryd.func18 (by kernel_rfl) rfl #[.agg #[.slice aq l0_0.length ar, .slice au l0_1.length av], .agg #[.string a1_0, .string a1_1]] rfl (by (try simp only [List.map_toArray, List.map_cons, List.map_nil]); first | done | rfl | (simp only [List.length_drop, List.length_take]; rfl)) ?_; (with_reducible refine (store_find.calls k _ _ l0_0 _ _ l0_1 a1_0 a1_1 aF true bS _ ?side1 ?side2 ?side3 ?side4 A4.out).mono ?_); (case side1 => repeat (first | exact (Kd.V_reads' aa.out).2.2 | (with_reducible refine Kd.C_alloc ?_ _) | (with_reducible refine Kd.C_drewN ?_ _) | (with_reducible refine Kd.C_drew ?_))); (case side2 => exact (Kd.V_reads' aa.out).2.1); (case side3 => repeat (first | exact (Kd.V_reads' ab.out).2.2 | (with_reducible refine Kd.C_alloc ?_ _) | (with_reducible refine Kd.C_drewN ?_ _) | (with_reducible refine Kd.C_drew ?_))); (case side4 => exact (Kd.V_reads' ab.out).2.1); rintro e w19 ⟨rfl, hb⟩; refine ⟨_, rfl, ?_⟩; replace aa := am (vB aa.out hb); replace ab := am (vB ab.out hb); replace ac := am (bB ac.out hb); replace ad := am (bB ad.out hb); replace ag := am (bB ag.out hb); replace HB := am (below_step (by repeat (first | (with_reducible first | exact HB.out | apply pA | apply pN | apply pD | refine eU ?_ (by assumption)) | exact HB.out)) hb); (try clear hb); (try clear hb2); (try clear hk); (try clear hi); have d8 : w19.cell? ⟨ax, 0, none⟩ = some (.slice aq l0_0.length ar) := (blk_cell ac.out 0).trans rfl; have d9 : w19.cell? ⟨ax, 1, none⟩ = some (.slice au l0_1.length av) := (blk_cell ac.out 1).trans rfl; have d_ := blk_frozen ac.out 0; have ea := blk_frozen ac.out 1) | ((with_reducible refine gate_callee (f := 19) rfl ?_); refine goesL_ (some 24) rfl rfl Tryd.func19 (by kernel_rfl) rfl #[.agg #[.slice aq l0_0.length ar, .slice au l0_1.length av]] rfl (by (try simp only [List.map_toArray, List.map_cons, List.map_nil]); first | done | rfl | (simp only [List.length_drop, List.length_take]; rfl)) ?_; (with_reducible refine (store_own.calls _ _ l0_0 _ _ l0_1 ay al _ ?side1 ?side2 ?side3 ?side4 A6.out).mono ?_); (case side1 => repeat (first | exact (Kd.V_reads' aa.out).2.2 | (with_reducible refine Kd.C_alloc ?_ _) | (with_reducible refine Kd.C_drewN ?_ _) | (with_reducible refine Kd.C_drew ?_))); (case side2 => exact (Kd.V_reads' aa.out).2.1); (case side3 => repeat (first | exact (Kd.V_reads' ab.out).2.2 | (with_reducible refine Kd.C_alloc ?_ _) | (with_reducible refine Kd.C_drewN ?_ _) | (with_reducible refine Kd.C_drew ?_))); (case side4 => exact (Kd.V_reads' ab.out).2.1); rintro e w21 ⟨fV, fW, rfl, ho0, ho1, hb⟩; refine ⟨_, rfl, ?_⟩; replace aa := am (Kd.V_mono (Kd.V_told (Kd.V_told (Kd.V_old (vT aa.out) hb) (Kd.R_base ho0)) (Kd.R_base ho1)) (fun _ h_ => h_.1)); replace ab := am (Kd.V_mono (Kd.V_told (Kd.V_told (Kd.V_old (vT ab.out) hb) (Kd.R_base ho0)) (Kd.R_base ho1)) (fun _ h_ => h_.1)); have ak := am (Kd.R_lower (Kd.R_newB (Kd.R_newM (M := fun k_ => (w.heap.size ≤ k_)) ho0 (below_size (by repeat (first | (with_reducible first | exact HB.out | apply pA | apply pN | apply pD | refine eU ?_ (by assumption)) | exact HB.out))) (fun k_ h_ => h_)) (g := aj) (o := .cells #[.string a1_0, .string a1_1] 27 (0, 0)) (bT ad.out)) (below_size (by repeat (first | (with_reducible first | exact HB.out | apply pA | apply pN | apply pD | refine eU ?_ (by assumption)) | exact HB.out)))); have ai := am (Kd.R_lower (Kd.R_newM (M := fun k_ => (w.heap.size ≤ k_)) ho1 (below_size (by repeat (first | (with_reducible first | exact HB.out | apply pA | apply pN | apply pD | refine eU ?_ (by assumption)) | exact HB.out))) (fun k_ h_ => h_)) (below_size (by repeat (first | (with_reducible first | exact HB.out | apply pA | apply pN | apply pD | refine eU ?_ (by assumption)) | exact HB.out)))); replace ac := am (bB ac.out hb); replace ag := am (bB ag.out hb); replace ad := am (bB ad.out hb); replace HB := am (below_step (by repeat (first | (with_reducible first | exact HB.out | apply pA | apply pN | apply pD | refine eU ?_ (by assumption)) | exact HB.out)) hb); (try clear hb); (try clear hb2); (try clear hk); (try clear hi); (try clear ho0); (try clear ho1)) | ((with_reducible refine gate_dst (N := 11) rfl ?_); refine box_event ?hg (N := 11) ?hd (cs := #[.slice none 0 0, .slice none 0 0]) (t := 25) ?hr ?_; (case hd => rfl); (case hg => rfl); (case hr => first | (go_simp; done) | (go_simp; rfl)); intro af hg w22 hbox hb; replace aa := am (Kd.V_below (Kd.V_elderB (vT aa.out) af (Nat.le_of_eq hg.symm)) hb); replace ab := am (Kd.V_below (Kd.V_elderB (vT ab.out) af (Nat.le_of_eq hg.symm)) hb); replace ak := am (rB ak.out hb); replace ai := am (rB ai.out hb); have ae := am (hbox); have dD := am ((by rw [hg]; exact (below_size (by repeat (first | (with_reducible first | exact HB.out | apply pA | apply pN | apply pD | refine eU ?_ (by assumption)) | exact HB.out))) : w.heap.size ≤ af)); have dE := am ((by rw [hg]; exact (below_size (by repeat (first | (with_reducible first | exact HB.out | apply pA | apply pN | apply pD | refine eU ?_ (by assumption)) | exact HB.out))) : w.heap.size ≤ af)); have aM := am ((nT ac.out hg)); have bm := am ((mT ac.out hg)); have aN := am ((nT ad.out hg)); have bo := am ((mT ad.out hg)); have aG := am ((nT ag.out hg)); have bp := am ((mT ag.out hg)); replace ac := am (bB ac.out hb); replace ad := am (bB ad.out hb); replace ag := am (bB ag.out hb); replace HB := am (below_step (by repeat (first | (with_reducible first | exact HB.out | apply pA | apply pN | apply pD | refine eU ?_ (by assumption)) | exact HB.out)) hb); clear hb hbox hg; obtain ⟨bC, bD, fX⟩ := Kd.R_slice ak.out; subst fX; have dF := bm.out; have dG := aM.out; have gd := bo.out; have ge := aN.out; have gf := bp.out; have gg := aG.out; have eb : w22.cell? ⟨af, 0, none⟩ = some (.slice none 0 0) := (blk_cell ae.out 0).trans rfl; have ec : w22.cell? ⟨af, 1, none⟩ = some (.slice none 0 0) := (blk_cell ae.out 1).trans rfl; have ed := blk_frozen ae.out 0; have ee := blk_frozen ae.out 1; obtain ⟨bU, be, fY⟩ := Kd.R_slice ai.out; subst fY) | ((with_reducible refine gate_store (t := 25) (p := 11) rfl ?_); refine store_event (t := 25) (p := 11) (v := ?vo_w29) (w1 := ((w22.setCell ⟨af, 0, none⟩ (.slice bC ay.length bD)).setCell ⟨af, 1, none⟩ (.slice bU al.length be))) ?hg ?ho ?hn ?hr ?_; (case ho => rfl); (case hg => rfl); (case hn => rfl); (case hr => first | (go_simp; done) | (go_simp; rfl)); intro w29 hw; have n0_ : Aside0 (Kd.V k27 27 w29 w.heap.size (fun k_ => ((P0_0_ k_ ∨ P0_1_ k_) ∨ w.heap.size ≤ k_) ∧ some k_ ≠ (.slice bC ay.length bD : Value).ownBlock ∧ some k_ ≠ (.slice bU al.length be : Value).ownBlock ∧ k_ ≠ ax ∧ k_ ≠ aj ∧ k_ ≠ an ∧ k_ ≠ af) (.slice aq l0_0.length ar) l0_0) := ⟨(by rw [hw]; exact (by (with_reducible repeat (first | apply Kd.V_alloc | apply Kd.V_drewN | apply Kd.V_drew)); exact Kd.V_mono (Kd.V_far (p := ⟨af, 1, none⟩) (Kd.V_far (p := ⟨af, 0, none⟩) (Kd.V_mono aa.out (fun k_ hk => (⟨hk, hk.2⟩ : _ ∧ k_ ≠ af))) (fun _ hk => hk.2) (.slice bC ay.length bD)) (fun _ hk => hk.2) (.slice bU al.length be)) (fun _ hk => ⟨hk.1.1.1.1.1.1.1, ⟨hk.1.1.1.2, ⟨hk.1.1.2, ⟨hk.1.1.1.1.1.1.2, ⟨hk.1.1.1.1.1.2, ⟨hk.1.1.1.1.2, hk.1.2⟩⟩⟩⟩⟩⟩)))⟩; have n1_ : Aside0 (Kd.V Kd.string 9 w29 w.heap.size (fun k_ => ((P0_0_ k_ ∨ P0_1_ k_) ∨ w.heap.size ≤ k_) ∧ some k_ ≠ (.slice bC ay.length bD : Value).ownBlock ∧ some k_ ≠ (.slice bU al.length be : Value).ownBlock ∧ k_ ≠ ax ∧ k_ ≠ aj ∧ k_ ≠ an ∧ k_ ≠ af) (.slice au l0_1.length av) l0_1) := ⟨(by rw [hw]; exact (by (with_reducible repeat (first | apply Kd.V_alloc | apply Kd.V_drewN | apply Kd.V_drew)); exact Kd.V_mono (Kd.V_far (p := ⟨af, 1, none⟩) (Kd.V_far (p := ⟨af, 0, none⟩) (Kd.V_mono ab.out (fun k_ hk => (⟨hk, hk.2⟩ : _ ∧ k_ ≠ af))) (fun _ hk => hk.2) (.slice bC ay.length bD)) (fun _ hk => hk.2) (.slice bU al.length be)) (fun _ hk => ⟨hk.1.1.1.1.1.1.1, ⟨hk.1.1.1.2, ⟨hk.1.1.2, ⟨hk.1.1.1.1.1.1.2, ⟨hk.1.1.1.1.1.2, ⟨hk.1.1.1.1.2, hk.1.2⟩⟩⟩⟩⟩⟩)))⟩; have n2_ : Aside0 (Kd.R k27 27 w29 w.heap.size (fun k_ => (w.heap.size ≤ k_) ∧ k_ ≠ aj) (.slice bC ay.length bD) ay) := ⟨(by rw [hw]; exact (by (with_reducible repeat (first | apply Kd.R_alloc | apply Kd.R_drewN | apply Kd.R_drew)); exact Kd.R_mono (Kd.R_far (p := ⟨af, 1, none⟩) (Kd.R_far (p := ⟨af, 0, none⟩) (Kd.R_types ak.out ae.out (by decide)) (fun _ hk => hk.2) (.slice bC ay.length bD)) (fun _ hk => hk.2) (.slice bU al.length be)) (fun _ hk => ⟨hk.1.1.1, hk.1.2⟩)))⟩; have n3_ : Aside0 (Kd.R Kd.string 9 w29 w.heap.size (fun k_ => (w.heap.size ≤ k_)) (.slice bU al.length be) al) := ⟨(by rw [hw]; exact (by (with_reducible repeat (first | apply Kd.R_alloc | apply Kd.R_drewN | apply Kd.R_drew)); exact Kd.R_mono (Kd.R_far (p := ⟨af, 1, none⟩) (Kd.R_far (p := ⟨af, 0, none⟩) (Kd.R_types ai.out ae.out (by decide)) (fun _ hk => hk.2) (.slice bC ay.length bD)) (fun _ hk => hk.2) (.slice bU al.length be)) (fun _ hk => hk.1.1)))⟩; have n4_ : Aside0 (w29.heap[ax]? = some (.cells #[.slice aq l0_0.length ar, .slice au l0_1.length av] 25 (0, 0))) := ⟨(by rw [hw]; exact (by (with_reducible repeat (first | apply bn | apply bd | apply ba)); refine blk_far ?_ aM.out _; (with_reducible repeat (first | apply bn | apply bd | apply ba)); refine blk_far ?_ aM.out _; exact bT ac.out))⟩; have n5_ : Aside0 (w29.heap[aj]? = some (.cells #[.string a1_0, .string a1_1] 27 (0, 0))) := ⟨(by rw [hw]; exact (by (with_reducible repeat (first | apply bn | apply bd | apply ba)); refine blk_far ?_ aN.out _; (with_reducible repeat (first | apply bn | apply bd | apply ba)); refine blk_far ?_ aN.out _; exact bT ad.out))⟩; have n6_ : Aside0 (w29.heap[an]? = some (.cells #[.slice none 0 0, .slice none 0 0] 25 (0, 0))) := ⟨(by rw [hw]; exact (by (with_reducible repeat (first | apply bn | apply bd | apply ba)); refine blk_far ?_ aG.out _; (with_reducible repeat (first | apply bn | apply bd | apply ba)); refine blk_far ?_ aG.out _; exact bT ag.out))⟩; have n7_ : Aside0 (w29.heap[af]? = some (.cells #[.slice bC ay.length bD, .slice bU al.length be] 25 (0, 0))) := ⟨(by rw [hw]; exact (by (with_reducible repeat (first | apply bn | apply bd | apply ba)); refine blk_put (cs := #[.slice bC ay.length bD, .slice none 0 0]) ?_ 1 _ rfl; (with_reducible repeat (first | apply bn | apply bd | apply ba)); refine blk_put (cs := #[.slice none 0 0, .slice none 0 0]) ?_ 0 _ rfl; exact bT ae.out))⟩; have n8_ : Aside0 (Below w.heap.size w w29) := ⟨(by rw [hw]; exact (by repeat (first | (with_reducible first | exact HB.out | apply pA | apply pN | apply pD | refine eU ?_ (by assumption)) | exact HB.out)))⟩; clear hw aa ab ak ai ac ad ag ae HB; have aa := n0_; have ab := n1_; have ak := n2_; have ai := n3_; have ac := n4_; have ad := n5_; have ag := n6_; have ae := n7_; have HB := n8_; clear n0_ n1_ n2_ n3_ n4_ n5_ n6_ n7_ n8_; have ef : w29.cell? ⟨af, 0, none⟩ = some (.slice bC ay.length bD) := (blk_cell ae.out 0).trans rfl; have eg : w29.cell? ⟨af, 1, none⟩ = some (.slice bU al.length be) := (blk_cell ae.out 1).trans rfl; have eh := blk_frozen ae.out 0; have ei := blk_frozen ae.out 1; have p10 : 0 ≤ (aF : Int) := of_decide_eq_true (by first | (with_reducible assumption) | assumption); have q10 : (aF : Int) < ((al.length : Int) : Int) := of_decide_eq_true (by first | (with_reducible assumption) | assumption); obtain ⟨go10, ci, cj, dH, gl10, cl10, HG10⟩ := Kd.R_form ai.out (by omega); (first | cases cj | (injection cj with ea_ en_ ec_; (first | subst ea_ | (injection ea_ with ea_; subst ea_)); subst ec_; clear en_)); have GB10 := Aside0.mk dH; have GG10 := Aside0.mk HG10; clear dH gl10 HG10; obtain ⟨fZ, f0⟩ := Kd.R_celln (⟨#[]⟩ : ByteArray) ai.out (aF : Int) p10 q10; replace p10 := eq_true p10; replace q10 := eq_true q10; obtain ⟨gh, hz31_⟩ := Kd.R_celln (⟨#[]⟩ : ByteArray) ai.out (aF : Int) (of_decide_eq_true (by first | (with_reducible assumption) | assumption)) (of_decide_eq_true (by first | (with_reducible assumption) | assumption)); have HP31 := Kd.R_putg ai.out (aF : Int) a2) | ((with_reducible refine gate_store (t := 9) (p := 30) rfl ?_); refine store_event (t := 9) (p := 30) (v := ?vo_w32) (w1 := (w29.setCell ⟨go10, (aF : Int).toNat, none⟩ (.string a2))) ?hg ?ho ?hn ?hr ?_; (case ho => rfl); (case hg => rfl); (case hn => rfl); (case hr => first | (go_simp; done) | (go_simp; rfl)); intro w32 hw; have hg : w29.grownBy w32 (some go10) := (by rw [hw]; exact HP31.2); have hp_ : Kd.R Kd.string 9 w32 w.heap.size (fun k_ => (w.heap.size ≤ k_)) (.slice (some ⟨go10, 0, none⟩) al.length be) dy := (by rw [hw, Ny274.out]; exact HP31.1); clear HP31; replace aa := am (Kd.V_afterv (v := (.slice (some ⟨go10, 0, none⟩) al.length be)) (v1 := (.slice (some ⟨go10, 0, none⟩) al.length be)) (ok := (fun k_ => ((P0_0_ k_ ∨ P0_1_ k_) ∨ w.heap.size ≤ k_) ∧ some k_ ≠ (.slice bC ay.length bD : Value).ownBlock ∧ k_ ≠ ax ∧ k_ ≠ aj ∧ k_ ≠ an ∧ k_ ≠ af)) (by (with_reducible repeat (first | apply Kd.V_alloc | apply Kd.V_drewN | apply Kd.V_drew)); exact Kd.V_mono aa.out (fun _ hk => ⟨⟨hk.1, ⟨hk.2.1, ⟨hk.2.2.2.1, ⟨hk.2.2.2.2.1, ⟨hk.2.2.2.2.2.1, hk.2.2.2.2.2.2⟩⟩⟩⟩⟩, hk.2.2.1⟩)) hg (.inl rfl)); replace ab := am (Kd.V_afterv (v := (.slice (some ⟨go10, 0, none⟩) al.length be)) (v1 := (.slice (some ⟨go10, 0, none⟩) al.length be)) (ok := (fun k_ => ((P0_0_ k_ ∨ P0_1_ k_) ∨ w.heap.size ≤ k_) ∧ some k_ ≠ (.slice bC ay.length bD : Value).ownBlock ∧ k_ ≠ ax ∧ k_ ≠ aj ∧ k_ ≠ an ∧ k_ ≠ af)) (by (with_reducible repeat (first | apply Kd.V_alloc | apply Kd.V_drewN | apply Kd.V_drew)); exact Kd.V_mono ab.out (fun _ hk => ⟨⟨hk.1, ⟨hk.2.1, ⟨hk.2.2.2.1, ⟨hk.2.2.2.2.1, ⟨hk.2.2.2.2.2.1, hk.2.2.2.2.2.2⟩⟩⟩⟩⟩, hk.2.2.1⟩)) hg (.inl rfl)); replace ac := am (blk_grown (g := ax) (o := .cells #[.slice aq l0_0.length ar, .slice au l0_1.length av] 25 (0, 0)) (bT ac.out) hg (Kd.R_ne ai.out ac.out (by decide))); replace ad := am (blk_grown (g := aj) (o := .cells #[.string a1_0, .string a1_1] 27 (0, 0)) (bT ad.out) hg (Kd.R_ne ai.out ad.out (by decide))); replace ag := am (blk_grown (g := an) (o := .cells #[.slice none 0 0, .slice none 0 0] 25 (0, 0)) (bT ag.out) hg (Kd.R_ne ai.out ag.out (by decide))); replace ak := am (Kd.R_over' (v := (.slice (some ⟨go10, 0, none⟩) al.length be)) (rT ak.out) (Kd.R_typed ai.out) (by decide) hg); replace ae := am (blk_grown (g := af) (o := .cells #[.slice bC ay.length bD, .slice (some ⟨go10, 0, none⟩) al.length be] 25 (0, 0)) (bT ae.out) hg (Kd.R_ne ai.out ae.out (by decide))); replace HB := am ((by rw [hw]; exact below_set (HB.out) GB10.out : Below w.heap.size w w32)); replace ai := am (hp_); clear hg hw hp_; have ej : w32.cell? ⟨af, 0, none⟩ = some (.slice bC ay.length bD) := (blk_cell ae.out 0).trans rfl; have ek : w32.cell? ⟨af, 1, none⟩ = some (.slice (some ⟨go10, 0, none⟩) al.length be) := (blk_cell ae.out 1).trans rfl; have el := blk_frozen ae.out 0; have em := blk_frozen ae.out 1; have en : w32.cell? ⟨an, 0, none⟩ = some (.slice none 0 0) := (blk_cell ag.out 0).trans rfl; have eo : w32.cell? ⟨an, 1, none⟩ = some (.slice none 0 0) := (blk_cell ag.out 1).trans rfl; have ep := blk_frozen ag.out 0; have eq := blk_frozen ag.out 1))
     refine bodyPost_ret (results_ct rfl _ _ an 25 #[.slice bC ay.length bD, .slice (some ⟨go10, 0, none⟩) al.length be] (0, 0) _ rfl (by (with_reducible repeat (first | apply bn | apply bd | apply ba)); refine blk_put (cs := #[.slice bC ay.length bD, .slice none 0 0]) ?_ 1 _ rfl; (with_reducible repeat (first | apply bn | apply bd | apply ba)); refine blk_put (cs := #[.slice none 0 0, .slice none 0 0]) ?_ 0 _ rfl; exact bT ag.out) Tryd.underlying25 rfl (by kernel_rfl)) rfl ?_
     exact ⟨_, _, by first | rfl | (simp [errW_none, errW_some] <;> rfl) | (simp [*, errW_none, errW_some] <;> rfl), Kd.V_mono (Kd.R_V (by (with_reducible repeat (first | apply Kd.R_alloc | apply Kd.R_drewN | apply Kd.R_drew)); exact Kd.R_mono (Kd.R_far (p := ⟨an, 1, none⟩) (Kd.R_far (p := ⟨an, 0, none⟩) (Kd.R_types ak.out ag.out (by decide)) (fun _ hk => hk.2) (.slice bC ay.length bD)) (fun _ hk => hk.2) (.slice (some ⟨go10, 0, none⟩) al.length be)) (fun _ hk => hk.1.1))) (fun k_ hk => by first | exact ⟨(.inr (hk.1)), hk.2⟩ | exact (.inr (hk))), Kd.V_mono (Kd.R_V (by (with_reducible repeat (first | apply Kd.R_alloc | apply Kd.R_drewN | apply Kd.R_drew)); exact Kd.R_mono (Kd.R_far (p := ⟨an, 1, none⟩) (Kd.R_far (p := ⟨an, 0, none⟩) (Kd.R_types ai.out ag.out (by decide)) (fun _ hk => hk.2) (.slice bC ay.length bD)) (fun _ hk => hk.2) (.slice (some ⟨go10, 0, none⟩) al.length be)) (fun _ hk => hk.1))) (fun k_ hk => by first | exact ⟨(.inr (hk.1)), hk.2⟩ | exact (.inr (hk))), by repeat (first | (with_reducible first | exact HB.out | apply pA | apply pN | apply pD | refine eU ?_ (by assumption)) | exact HB.out)⟩
    ·rw [if_neg c9] at H
     exact absurd H (by simp)
   ·rw [if_neg c8] at H
    exact absurd H (by simp)
  ·replace c7 := Bool.eq_false_iff.mpr c7
   subst c7
   have H1 : ((api_Node_20.f ay aF (([(⟨a1_0, a1_1⟩ : S27)] : List (S27)))).bind fun aY => ((slices_Insert_string_string.f al aF (([a2] : List ByteArray))).bind fun a_ => (some (aY, a_, 0)))) = some (r1, r2, r3) := by rw [if_neg (show ¬ (false = true) by decide)] at H; exact H
   clear H
   have H := H1
   clear H1
   obtain ⟨bf, b7⟩ : ∃ y_ : List (S27), y_ = (([(⟨a1_0, a1_1⟩ : S27)] : List (S27))) := ⟨_, rfl⟩
   replace H : ((api_Node_20.f ay aF bf).bind fun aY => ((slices_Insert_string_string.f al aF (([a2] : List ByteArray))).bind fun a_ => (some (aY, a_, 0)))) = some (r1, r2, r3) := by first | (rw [b7]; with_reducible exact H) | (have H2_ := (Option.bind_some _ _).symm.trans H; rw [b7]; with_reducible exact H2_) | (have H2_ := (Option.bind_some _ _).symm.trans H; with_reducible exact H2_) | with_reducible exact H | (rw [b7]; exact H) | exact H
   have Ny275 := Aside0.mk b7
   clear b7
   replace H := Option.bind_eq_some_iff.mp H
   obtain ⟨aY, dI, H⟩ := H
   replace H : ((slices_Insert_string_string.f al aF (([a2] : List ByteArray))).bind fun a_ => (some (aY, a_, 0))) = some (r1, r2, r3) := H
   have A35 := Aside0.mk dI
   clear dI
   obtain ⟨b8, b9⟩ : ∃ y_ : List ByteArray, y_ = (([a2] : List ByteArray)) := ⟨_, rfl⟩
   replace H : ((slices_Insert_string_string.f al aF b8).bind fun a_ => (some (aY, a_, 0))) = some (r1, r2, r3) := by first | (rw [b9]; with_reducible exact H) | (have H2_ := (Option.bind_some _ _).symm.trans H; rw [b9]; with_reducible exact H2_) | (have H2_ := (Option.bind_some _ _).symm.trans H; with_reducible exact H2_) | with_reducible exact H | (rw [b9]; exact H) | exact H
   have Ny281 := Aside0.mk b9
   clear b9
   replace H := Option.bind_eq_some_iff.mp H
   obtain ⟨a_, dJ, H⟩ := H
   replace H : (some (aY, a_, 0)) = some (r1, r2, r3) := H
   have A36 := Aside0.mk dJ
   clear dJ
   simp only [Option.some.injEq, Prod.mk.injEq] at H
   obtain ⟨rfl, rfl, rfl⟩ := H
   go_enter Tryd.func9, Tryd.ntmps9
   try go_wp2_with (first | ((with_reducible refine gate_dst (N := 3) rfl ?_); refine box_event ?hg (N := 3) ?hd (cs := #[.slice aq l0_0.length ar, .slice au l0_1.length av]) (t := 25) ?hr ?_; (case hd => rfl); (case hg => rfl); (case hr => first | (go_simp; done) | (go_simp; rfl)); intro ax hg w37 hbox hb; replace aa := am (Kd.V_below (Kd.V_elderB (vT aa.out) ax (Nat.le_of_eq hg.symm)) hb); replace ab := am (Kd.V_below (Kd.V_elderB (vT ab.out) ax (Nat.le_of_eq hg.symm)) hb); have ac := am (hbox); have c_ := am ((gT hg HB.out)); have da := am ((gT hg HB.out)); replace HB := am (sT HB.out hb); clear hb hbox hg) | ((with_reducible refine gate_dst (N := 4) rfl ?_); refine box_event ?hg (N := 4) ?hd (cs := #[.string a1_0, .string a1_1]) (t := 27) ?hr ?_; (case hd => rfl); (case hg => rfl); (case hr => first | (go_simp; done) | (go_simp; rfl)); intro aj hg w38 hbox hb; replace aa := am (Kd.V_below (Kd.V_elderB (vT aa.out) aj (Nat.le_of_eq hg.symm)) hb); replace ab := am (Kd.V_below (Kd.V_elderB (vT ab.out) aj (Nat.le_of_eq hg.symm)) hb); have ad := am (hbox); have db := am ((gT hg HB.out)); have dc := am ((gT hg HB.out)); have bg := am ((nT ac.out hg)); have bh := am ((mT ac.out hg)); replace ac := am (bB ac.out hb); replace HB := am (sT HB.out hb); clear hb hbox hg) | ((with_reducible refine gate_dst (N := 6) rfl ?_); refine box_event ?hg (N := 6) ?hd (cs := #[.slice none 0 0, .slice none 0 0]) (t := 25) ?hr ?_; (case hd => rfl); (case hg => rfl); (case hr => first | (go_simp; done) | (go_simp; rfl)); intro an hg w39 hbox hb; replace aa := am (Kd.V_below (Kd.V_elderB (vT aa.out) an (Nat.le_of_eq hg.symm)) hb); replace ab := am (Kd.V_below (Kd.V_elderB (vT ab.out) an (Nat.le_of_eq hg.symm)) hb); have ag := am (hbox); have dd := am ((gT hg HB.out)); have de := am ((gT hg HB.out)); have bi := am ((nT ac.out hg)); have bj := am ((mT ac.out hg)); have bk := am ((nT ad.out hg)); have bl := am ((mT ad.out hg)); replace ac := am (bB ac.out hb); replace ad := am (bB ad.out hb); replace HB := am (sT HB.out hb); clear hb hbox hg; have dK := bg.out; have dL := bh.out; have dM := bi.out; have dN := bj.out; have cA : w39.cell? ⟨ax, 0, none⟩ = some (.slice aq l0_0.length ar) := (blk_cell ac.out 0).trans rfl; have cB : w39.cell? ⟨ax, 1, none⟩ = some (.slice au l0_1.length av) := (blk_cell ac.out 1).trans rfl; have cC := blk_frozen ac.out 0; have cD := blk_frozen ac.out 1; have dP := bk.out; have dQ := bl.out; have cE : w39.cell? ⟨aj, 0, none⟩ = some (.string a1_0) := (blk_cell ad.out 0).trans rfl; have cF : w39.cell? ⟨aj, 1, none⟩ = some (.string a1_1) := (blk_cell ad.out 1).trans rfl; have cG := blk_frozen ad.out 0; have cH := blk_frozen ad.out 1) | ((with_reducible refine gate_callee (f := 18) rfl ?_); refine goesL_ (some 15) rfl rfl Tryd.func18 (by kernel_rfl) rfl #[.agg #[.slice aq l0_0.length ar, .slice au l0_1.length av], .agg #[.string a1_0, .string a1_1]] rfl (by (try simp only [List.map_toArray, List.map_cons, List.map_nil]); first | done | rfl | (simp only [List.length_drop, List.length_take]; rfl)) ?_; (with_reducible refine (store_find.calls k _ _ l0_0 _ _ l0_1 a1_0 a1_1 aF false bS _ ?side1 ?side2 ?side3 ?side4 A4.out).mono ?_); (case side1 => repeat (first | exact (Kd.V_reads' aa.out).2.2 | (with_reducible refine Kd.C_alloc ?_ _) | (with_reducible refine Kd.C_drewN ?_ _) | (with_reducible refine Kd.C_drew ?_))); (case side2 => exact (Kd.V_reads' aa.out).2.1); (case side3 => repeat (first | exact (Kd.V_reads' ab.out).2.2 | (with_reducible refine Kd.C_alloc ?_ _) | (with_reducible refine Kd.C_drewN ?_ _) | (with_reducible refine Kd.C_drew ?_))); (case side4 => exact (Kd.V_reads' ab.out).2.1); rintro e w45 ⟨rfl, hb⟩; refine ⟨_, rfl, ?_⟩; replace aa := am (vB aa.out hb); replace ab := am (vB ab.out hb); replace ac := am (bB ac.out hb); replace ad := am (bB ad.out hb); replace ag := am (bB ag.out hb); replace HB := am (sT HB.out hb); (try clear hb); (try clear hb2); (try clear hk); (try clear hi); have cI : w45.cell? ⟨ax, 0, none⟩ = some (.slice aq l0_0.length ar) := (blk_cell ac.out 0).trans rfl; have cJ : w45.cell? ⟨ax, 1, none⟩ = some (.slice au l0_1.length av) := (blk_cell ac.out 1).trans rfl; have cK := blk_frozen ac.out 0; have cL := blk_frozen ac.out 1) | ((with_reducible refine gate_callee (f := 19) rfl ?_); refine goesL_ (some 24) rfl rfl Tryd.func19 (by kernel_rfl) rfl #[.agg #[.slice aq l0_0.length ar, .slice au l0_1.length av]] rfl (by (try simp only [List.map_toArray, List.map_cons, List.map_nil]); first | done | rfl | (simp only [List.length_drop, List.length_take]; rfl)) ?_; (with_reducible refine (store_own.calls _ _ l0_0 _ _ l0_1 ay al _ ?side1 ?side2 ?side3 ?side4 A6.out).mono ?_); (case side1 => repeat (first | exact (Kd.V_reads' aa.out).2.2 | (with_reducible refine Kd.C_alloc ?_ _) | (with_reducible refine Kd.C_drewN ?_ _) | (with_reducible refine Kd.C_drew ?_))); (case side2 => exact (Kd.V_reads' aa.out).2.1); (case side3 => repeat (first | exact (Kd.V_reads' ab.out).2.2 | (with_reducible refine Kd.C_alloc ?_ _) | (with_reducible refine Kd.C_drewN ?_ _) | (with_reducible refine Kd.C_drew ?_))); (case side4 => exact (Kd.V_reads' ab.out).2.1); rintro e w47 ⟨fV, fW, rfl, ho0, ho1, hb⟩; refine ⟨_, rfl, ?_⟩; replace aa := am (Kd.V_mono (Kd.V_told (Kd.V_told (Kd.V_old (vT aa.out) hb) (Kd.R_base ho0)) (Kd.R_base ho1)) (fun _ h_ => h_.1)); replace ab := am (Kd.V_mono (Kd.V_told (Kd.V_told (Kd.V_old (vT ab.out) hb) (Kd.R_base ho0)) (Kd.R_base ho1)) (fun _ h_ => h_.1)); have ak := am (Kd.R_lower (Kd.R_newB (Kd.R_newM (M := fun k_ => (w.heap.size ≤ k_)) ho0 (below_size (eT HB.out)) (fun k_ h_ => h_)) (g := aj) (o := .cells #[.string a1_0, .string a1_1] 27 (0, 0)) (bT ad.out)) (below_size (eT HB.out))); have ai := am (Kd.R_lower (Kd.R_newM (M := fun k_ => (w.heap.size ≤ k_)) ho1 (below_size (eT HB.out)) (fun k_ h_ => h_)) (below_size (eT HB.out))); replace ac := am (bB ac.out hb); replace ag := am (bB ag.out hb); replace ad := am (bB ad.out hb); replace HB := am (sT HB.out hb); (try clear hb); (try clear hb2); (try clear hk); (try clear hi); (try clear ho0); (try clear ho1)) | ((with_reducible refine gate_dst (N := 11) rfl ?_); refine box_event ?hg (N := 11) ?hd (cs := #[.slice none 0 0, .slice none 0 0]) (t := 25) ?hr ?_; (case hd => rfl); (case hg => rfl); (case hr => first | (go_simp; done) | (go_simp; rfl)); intro af hg w48 hbox hb; replace aa := am (Kd.V_below (Kd.V_elderB (vT aa.out) af (Nat.le_of_eq hg.symm)) hb); replace ab := am (Kd.V_below (Kd.V_elderB (vT ab.out) af (Nat.le_of_eq hg.symm)) hb); replace ak := am (rB ak.out hb); replace ai := am (rB ai.out hb); have ae := am (hbox); have dD := am ((gT hg HB.out)); have dE := am ((gT hg HB.out)); have aM := am ((nT ac.out hg)); have bm := am ((mT ac.out hg)); have aN := am ((nT ad.out hg)); have bo := am ((mT ad.out hg)); have aG := am ((nT ag.out hg)); have bp := am ((mT ag.out hg)); replace ac := am (bB ac.out hb); replace ad := am (bB ad.out hb); replace ag := am (bB ag.out hb); replace HB := am (sT HB.out hb); clear hb hbox hg; obtain ⟨aJ, aK, f1⟩ := Kd.R_slice ak.out; subst f1; have gi := bm.out; have gj := aM.out; have dR := bo.out; have dS := aN.out; have dT := bp.out; have dU := aG.out; have cM : w48.cell? ⟨af, 0, none⟩ = some (.slice none 0 0) := (blk_cell ae.out 0).trans rfl; have cN : w48.cell? ⟨af, 1, none⟩ = some (.slice none 0 0) := (blk_cell ae.out 1).trans rfl; have cO := blk_frozen ae.out 0; have cP := blk_frozen ae.out 1; obtain ⟨aD, aE, f2⟩ := Kd.R_slice ai.out; subst f2))
   have n0_ : Aside0 (Kd.V k27 27 ((w48.setCell ⟨af, 0, none⟩ (.slice aJ ay.length aK)).setCell ⟨af, 1, none⟩ (.slice aD al.length aE)) w.heap.size (fun k_ => ((P0_0_ k_ ∨ P0_1_ k_) ∨ w.heap.size ≤ k_) ∧ some k_ ≠ (.slice aJ ay.length aK : Value).ownBlock ∧ some k_ ≠ (.slice aD al.length aE : Value).ownBlock ∧ k_ ≠ ax ∧ k_ ≠ aj ∧ k_ ≠ an ∧ k_ ≠ af) (.slice aq l0_0.length ar) l0_0) := ⟨by (with_reducible repeat (first | apply Kd.V_alloc | apply Kd.V_drewN | apply Kd.V_drew)); exact Kd.V_mono (Kd.V_far (p := ⟨af, 1, none⟩) (Kd.V_far (p := ⟨af, 0, none⟩) (Kd.V_mono aa.out (fun k_ hk => (⟨hk, hk.2⟩ : _ ∧ k_ ≠ af))) (fun _ hk => hk.2) (.slice aJ ay.length aK)) (fun _ hk => hk.2) (.slice aD al.length aE)) (fun _ hk => ⟨hk.1.1.1.1.1.1.1, ⟨hk.1.1.1.2, ⟨hk.1.1.2, ⟨hk.1.1.1.1.1.1.2, ⟨hk.1.1.1.1.1.2, ⟨hk.1.1.1.1.2, hk.1.2⟩⟩⟩⟩⟩⟩)⟩
   have n1_ : Aside0 (Kd.V Kd.string 9 ((w48.setCell ⟨af, 0, none⟩ (.slice aJ ay.length aK)).setCell ⟨af, 1, none⟩ (.slice aD al.length aE)) w.heap.size (fun k_ => ((P0_0_ k_ ∨ P0_1_ k_) ∨ w.heap.size ≤ k_) ∧ some k_ ≠ (.slice aJ ay.length aK : Value).ownBlock ∧ some k_ ≠ (.slice aD al.length aE : Value).ownBlock ∧ k_ ≠ ax ∧ k_ ≠ aj ∧ k_ ≠ an ∧ k_ ≠ af) (.slice au l0_1.length av) l0_1) := ⟨by (with_reducible repeat (first | apply Kd.V_alloc | apply Kd.V_drewN | apply Kd.V_drew)); exact Kd.V_mono (Kd.V_far (p := ⟨af, 1, none⟩) (Kd.V_far (p := ⟨af, 0, none⟩) (Kd.V_mono ab.out (fun k_ hk => (⟨hk, hk.2⟩ : _ ∧ k_ ≠ af))) (fun _ hk => hk.2) (.slice aJ ay.length aK)) (fun _ hk => hk.2) (.slice aD al.length aE)) (fun _ hk => ⟨hk.1.1.1.1.1.1.1, ⟨hk.1.1.1.2, ⟨hk.1.1.2, ⟨hk.1.1.1.1.1.1.2, ⟨hk.1.1.1.1.1.2, ⟨hk.1.1.1.1.2, hk.1.2⟩⟩⟩⟩⟩⟩)⟩
   have n2_ : Aside0 (Kd.R k27 27 ((w48.setCell ⟨af, 0, none⟩ (.slice aJ ay.length aK)).setCell ⟨af, 1, none⟩ (.slice aD al.length aE)) w.heap.size (fun k_ => (w.heap.size ≤ k_) ∧ k_ ≠ aj) (.slice aJ ay.length aK) ay) := ⟨by (with_reducible repeat (first | apply Kd.R_alloc | apply Kd.R_drewN | apply Kd.R_drew)); exact Kd.R_mono (Kd.R_far (p := ⟨af, 1, none⟩) (Kd.R_far (p := ⟨af, 0, none⟩) (Kd.R_types ak.out ae.out (by decide)) (fun _ hk => hk.2) (.slice aJ ay.length aK)) (fun _ hk => hk.2) (.slice aD al.length aE)) (fun _ hk => ⟨hk.1.1.1, hk.1.2⟩)⟩
   have n3_ : Aside0 (Kd.R Kd.string 9 ((w48.setCell ⟨af, 0, none⟩ (.slice aJ ay.length aK)).setCell ⟨af, 1, none⟩ (.slice aD al.length aE)) w.heap.size (fun k_ => (w.heap.size ≤ k_)) (.slice aD al.length aE) al) := ⟨by (with_reducible repeat (first | apply Kd.R_alloc | apply Kd.R_drewN | apply Kd.R_drew)); exact Kd.R_mono (Kd.R_far (p := ⟨af, 1, none⟩) (Kd.R_far (p := ⟨af, 0, none⟩) (Kd.R_types ai.out ae.out (by decide)) (fun _ hk => hk.2) (.slice aJ ay.length aK)) (fun _ hk => hk.2) (.slice aD al.length aE)) (fun _ hk => hk.1.1)⟩
   have n4_ : Aside0 (((w48.setCell ⟨af, 0, none⟩ (.slice aJ ay.length aK)).setCell ⟨af, 1, none⟩ (.slice aD al.length aE)).heap[ax]? = some (.cells #[.slice aq l0_0.length ar, .slice au l0_1.length av] 25 (0, 0))) := ⟨by (with_reducible repeat (first | apply bn | apply bd | apply ba)); refine blk_far ?_ aM.out _; (with_reducible repeat (first | apply bn | apply bd | apply ba)); refine blk_far ?_ aM.out _; exact bT ac.out⟩
   have n5_ : Aside0 (((w48.setCell ⟨af, 0, none⟩ (.slice aJ ay.length aK)).setCell ⟨af, 1, none⟩ (.slice aD al.length aE)).heap[aj]? = some (.cells #[.string a1_0, .string a1_1] 27 (0, 0))) := ⟨by (with_reducible repeat (first | apply bn | apply bd | apply ba)); refine blk_far ?_ aN.out _; (with_reducible repeat (first | apply bn | apply bd | apply ba)); refine blk_far ?_ aN.out _; exact bT ad.out⟩
   have n6_ : Aside0 (((w48.setCell ⟨af, 0, none⟩ (.slice aJ ay.length aK)).setCell ⟨af, 1, none⟩ (.slice aD al.length aE)).heap[an]? = some (.cells #[.slice none 0 0, .slice none 0 0] 25 (0, 0))) := ⟨by (with_reducible repeat (first | apply bn | apply bd | apply ba)); refine blk_far ?_ aG.out _; (with_reducible repeat (first | apply bn | apply bd | apply ba)); refine blk_far ?_ aG.out _; exact bT ag.out⟩
   have n7_ : Aside0 (((w48.setCell ⟨af, 0, none⟩ (.slice aJ ay.length aK)).setCell ⟨af, 1, none⟩ (.slice aD al.length aE)).heap[af]? = some (.cells #[.slice aJ ay.length aK, .slice aD al.length aE] 25 (0, 0))) := ⟨by (with_reducible repeat (first | apply bn | apply bd | apply ba)); refine blk_put (cs := #[.slice aJ ay.length aK, .slice none 0 0]) ?_ 1 _ rfl; (with_reducible repeat (first | apply bn | apply bd | apply ba)); refine blk_put (cs := #[.slice none 0 0, .slice none 0 0]) ?_ 0 _ rfl; exact bT ae.out⟩
   have n8_ : Aside0 (Below w.heap.size w ((w48.setCell ⟨af, 0, none⟩ (.slice aJ ay.length aK)).setCell ⟨af, 1, none⟩ (.slice aD al.length aE))) := ⟨by repeat (first | (with_reducible first | exact HB.out | apply pA | apply pN | apply pD | refine eU ?_ (by assumption)) | exact HB.out)⟩
   (try clear aa)
   (try clear ab)
   (try clear ak)
   (try clear ai)
   (try clear ac)
   (try clear ad)
   (try clear ag)
   (try clear ae)
   (try clear HB)
   generalize ((w48.setCell ⟨af, 0, none⟩ (.slice aJ ay.length aK)).setCell ⟨af, 1, none⟩ (.slice aD al.length aE)) = w55 at n0_ n1_ n2_ n3_ n4_ n5_ n6_ n7_ n8_ ⊢
   have aa := n0_
   have ab := n1_
   have ak := n2_
   have ai := n3_
   have ac := n4_
   have ad := n5_
   have ag := n6_
   have ae := n7_
   have HB := n8_
   clear n0_ n1_ n2_ n3_ n4_ n5_ n6_ n7_ n8_
   have n0_ := am (Kd.V_drew aa.out)
   have n1_ := am (Kd.V_drew ab.out)
   have n2_ := am (Kd.R_drew ak.out)
   have n3_ := am (Kd.R_drew ai.out)
   have n4_ := am (blk_drew ac.out)
   have n5_ := am (blk_drew ad.out)
   have n6_ := am (blk_drew ag.out)
   have n7_ := am (blk_drew ae.out)
   have n8_ := am (below_drew1 HB.out)
   clear aa ab ak ai ac ad ag ae HB
   have aa := n0_
   have ab := n1_
   have ak := n2_
   have ai := n3_
   have ac := n4_
   have ad := n5_
   have ag := n6_
   have ae := n7_
   have HB := n8_
   clear n0_ n1_ n2_ n3_ n4_ n5_ n6_ n7_ n8_
   refine start_ (n := 16) (S := fun w' => w'.cell? ⟨af, 0, none⟩ = some (.slice aJ ay.length aK) ∧ w'.cell? ⟨af, 1, none⟩ = some (.slice aD al.length aE) ∧ w'.cell? ⟨aj, 0, none⟩ = some (.string a1_0) ∧ w'.cell? ⟨aj, 1, none⟩ = some (.string a1_1)) (ds := [13, 15]) #[false, false, false, false, false, false, false, false, false, false, false, false, false, false, false, false] (by kernel_rfl) rfl rfl ⟨(blk_cell ae.out 0).trans rfl, (blk_cell ae.out 1).trans rfl, (blk_cell ad.out 0).trans rfl, (blk_cell ad.out 1).trans rfl⟩ (fun hHeld => ?_); refine with_tabW store_Put.tab8 store_Put.bits8 (fun HT_ HW_ => ?_)
   generalize w55.drew = w56 at aa ab ak ai ac ad ag ae HB hHeld ⊢
   refine pure_ (i := 0) (N := some 32) (v := ?_) (a' := ?_) #[true, false, false, false, false, false, false, false, false, false, false, false, false, false, false, false] rfl rfl (any_of HT_.out (by kernel_rfl)) (fun _ _ _ h => h) (Or.inl ⟨by rfl, ?_⟩) ?_ ?_
   rotate_left
   ·intro w'
    go_simp
    with_reducible rfl
   rotate_left
   ·simp only [pS]
    rfl
   refine pure_ (i := 2) (N := some 34) (v := ?_) (a' := ?_) #[true, false, true, false, false, false, false, false, false, false, false, false, false, false, false, false] rfl rfl (any_of HT_.out (by kernel_rfl)) (fun _ _ _ h => h) (Or.inl ⟨by rfl, ?_⟩) ?_ ?_
   rotate_left
   ·intro w'
    go_simp
    with_reducible rfl
   rotate_left
   ·simp only [pS]
    rfl
   refine pure_ (i := 6) (N := some 38) (v := ?_) (a' := ?_) #[true, false, true, false, false, false, true, false, false, false, false, false, false, false, false, false] rfl rfl (any_of HT_.out (by kernel_rfl)) (fun _ _ _ h => h) (Or.inl ⟨by rfl, ?_⟩) ?_ ?_
   rotate_left
   ·intro w'
    go_simp
    with_reducible rfl
   rotate_left
   ·simp only [pS]
    rfl
   refine pure_ (i := 8) (N := some 40) (v := ?_) (a' := ?_) #[true, false, true, false, false, false, true, false, true, false, false, false, false, false, false, false] rfl rfl (any_of HT_.out (by kernel_rfl)) (fun _ _ _ h => h) (Or.inl ⟨by rfl, ?_⟩) ?_ ?_
   rotate_left
   ·intro w'
    go_simp
    with_reducible rfl
   rotate_left
   ·simp only [pS]
    rfl
   refine pure_ (i := 9) (N := some 41) (v := ?_) (a' := ?_) #[true, false, true, false, false, false, true, false, true, true, false, false, false, false, false, false] rfl rfl (any_of HT_.out (by kernel_rfl)) (fun _ _ _ h => h) (Or.inl ⟨by rfl, ?_⟩) ?_ ?_
   rotate_left
   ·intro w'
    go_simp
    with_reducible rfl
   rotate_left
   ·simp only [pS]
    rfl
   refine take_ (i := 1) (N := some 33) (v := ?_) (a' := ?_) #[true, true, true, false, false, false, true, false, true, true, false, false, false, false, false, false] rfl rfl (take_ofW HT_.out HW_.out (by kernel_rfl)) (fun _ _ _ h => h) (Or.inl ⟨by rfl, ?_⟩) hHeld ?_ ?_
   rotate_left
   ·rintro w' ⟨s0, s1, s2, s3⟩
    go_simp
    with_reducible rfl
   rotate_left
   ·simp only [pS]
    rfl
   refine take_ (i := 3) (N := some 35) (v := ?_) (a' := ?_) #[true, true, true, true, false, false, true, false, true, true, false, false, false, false, false, false] rfl rfl (take_ofW HT_.out HW_.out (by kernel_rfl)) (fun _ _ _ h => h) (Or.inl ⟨by rfl, ?_⟩) hHeld ?_ ?_
   rotate_left
   ·rintro w' ⟨s0, s1, s2, s3⟩
    go_simp
    with_reducible rfl
   rotate_left
   ·simp only [pS]
    rfl
   refine take_ (i := 7) (N := some 39) (v := ?_) (a' := ?_) #[true, true, true, true, false, false, true, true, true, true, false, false, false, false, false, false] rfl rfl (take_ofW HT_.out HW_.out (by kernel_rfl)) (fun _ _ _ h => h) (Or.inl ⟨by rfl, ?_⟩) hHeld ?_ ?_
   rotate_left
   ·rintro w' ⟨s0, s1, s2, s3⟩
    go_simp
    with_reducible rfl
   rotate_left
   ·simp only [pS]
    rfl
   refine join_ (σ := Value × Value × Value) 4 #[true, true, true, true, true, true, true, true, true, true, true, false, true, false, false, false] (fun s_ => [(36, s_.1), (37, s_.2.1), (42, s_.2.2), (44, .pointer (some ⟨af, 0, none⟩))]) (fun s_ w' => (w'.cell? ⟨af, 0, none⟩ = some (.slice aJ ay.length aK) ∧ w'.cell? ⟨af, 1, none⟩ = some (.slice aD al.length aE) ∧ w'.cell? ⟨aj, 0, none⟩ = some (.string a1_0) ∧ w'.cell? ⟨aj, 1, none⟩ = some (.string a1_1)) ∧ (Kd.V k27 27 w' w.heap.size (fun k_ => ((P0_0_ k_ ∨ P0_1_ k_) ∨ w.heap.size ≤ k_) ∧ some k_ ≠ (.slice aD al.length aE : Value).ownBlock ∧ some k_ ≠ (s_.1 : Value).ownBlock ∧ some k_ ≠ (s_.2.1 : Value).ownBlock ∧ some k_ ≠ (s_.2.2 : Value).ownBlock ∧ k_ ≠ ax ∧ k_ ≠ aj ∧ k_ ≠ an ∧ k_ ≠ af) (.slice aq l0_0.length ar) l0_0) ∧ (Kd.V Kd.string 9 w' w.heap.size (fun k_ => ((P0_0_ k_ ∨ P0_1_ k_) ∨ w.heap.size ≤ k_) ∧ some k_ ≠ (.slice aD al.length aE : Value).ownBlock ∧ some k_ ≠ (s_.1 : Value).ownBlock ∧ some k_ ≠ (s_.2.1 : Value).ownBlock ∧ some k_ ≠ (s_.2.2 : Value).ownBlock ∧ k_ ≠ ax ∧ k_ ≠ aj ∧ k_ ≠ an ∧ k_ ≠ af) (.slice au l0_1.length av) l0_1) ∧ (Kd.R Kd.string 9 w' w.heap.size (fun k_ => (w.heap.size ≤ k_) ∧ some k_ ≠ (s_.2.2 : Value).ownBlock) (.slice aD al.length aE) al) ∧ (Kd.R k27 27 w' w.heap.size (fun k_ => (w.heap.size ≤ k_) ∧ some k_ ≠ (s_.2.1 : Value).ownBlock ∧ k_ ≠ aj) s_.1 bf) ∧ (Kd.R k27 27 w' w.heap.size (fun k_ => (w.heap.size ≤ k_) ∧ some k_ ≠ (s_.1 : Value).ownBlock ∧ k_ ≠ aj) s_.2.1 aY) ∧ (Kd.R Kd.string 9 w' w.heap.size (fun k_ => (w.heap.size ≤ k_) ∧ some k_ ≠ (.slice aD al.length aE : Value).ownBlock) s_.2.2 b8) ∧ (w'.heap[ax]? = some (.cells #[.slice aq l0_0.length ar, .slice au l0_1.length av] 25 (0, 0))) ∧ (w'.heap[aj]? = some (.cells #[.string a1_0, .string a1_1] 27 (0, 0))) ∧ (w'.heap[an]? = some (.cells #[.slice none 0 0, .slice none 0 0] 25 (0, 0))) ∧ (w'.heap[af]? = some (.cells #[.slice aJ ay.length aK, .slice aD al.length aE] 25 (0, 0))) ∧ (Below w.heap.size w w')) ?_ ?_
   rotate_left
   ·intro hCont
    refine two_ (i := 4) (j := 10) (Ni := some 36) (Nj := some 42) #[true, true, true, true, true, false, true, true, true, true, false, false, false, false, false, false] #[true, true, true, true, false, false, true, true, true, true, true, false, false, false, false, false] rfl rfl rfl rfl (two_of HT_.out (by kernel_rfl)) (by decide) (by decide) (fun K hK => ?_) (fun K hK => ?_)
    ·skip
     refine Kd.R_lit_step k27 _ 27 ?hg (N := 36) ?hd (xs := ([(⟨a1_0, a1_1⟩ : S27)] : List (S27))) (inner := [.string a1_0, .string a1_1]) (ok := fun _ => True) (okp := fun _ => True) ?hr ?hp (fun _ hk => hk) trivial (Below.refl _ _) (Nat.le_refl _) (by simp) ?_; (case hd => rfl); (case hg => rfl); (case hr => first | (go_simp; done) | (go_simp; rfl)); (case hp => exact (Reps.c2 (show Kd.M k27 _ _ _ (⟨a1_0, a1_1⟩ : S27) [.string a1_0, .string a1_1] from (k27_mkM _ _ _ (⟨a1_0, a1_1⟩ : S27) )) (Reps.none _ _)))
     intro b0 w57 ho58 hb hg_ hnew_
     clear hg_ hnew_
     (first | rw [← Ny275.out] at ho58 | (simp only [Int.reduceToNat] at ho58; rw [← Ny275.out] at ho58))
     have n0_ := am (Kd.V_elder' (vT aa.out) (Kd.R_base ho58) hb)
     have n1_ := am (Kd.V_elder' (vT ab.out) (Kd.R_base ho58) hb)
     have n2_ := am (Kd.R_elder' (rT ak.out) (Kd.R_base ho58) hb)
     have n3_ := am (rB ai.out hb)
     have n4_ := am (Kd.R_lower (Kd.R_newB (Kd.R_new' (Kd.R_newM (M := fun k_ => (w.heap.size ≤ k_)) ho58 (below_size (eT HB.out)) (fun k_ h_ => h_)) (Kd.R_lt (rT ak.out))) (g := aj) (o := .cells #[.string a1_0, .string a1_1] 27 (0, 0)) (bT ad.out)) (below_size (eT HB.out)))
     have n5_ := am (bB ac.out hb)
     have n6_ := am (bB ad.out hb)
     have n7_ := am (bB ag.out hb)
     have n8_ := am (bB ae.out hb)
     have n9_ := am (sT HB.out hb)
     clear aa ab ak ai ac ad ag ae HB
     have aa := n0_
     have ab := n1_
     have ak := n2_
     have ai := n3_
     have aA := n4_
     have ac := n5_
     have ad := n6_
     have ag := n7_
     have ae := n8_
     have HB := n9_
     clear n0_ n1_ n2_ n3_ n4_ n5_ n6_ n7_ n8_ n9_ hb ho58
     obtain ⟨cm, cn, dV⟩ := Kd.R_slice aA.out
     (first | subst dV | (injection dV with f1_ f2_ f3_; have f4_ := f1_.symm; have f5_ := f3_.symm; clear f1_ f2_ f3_; subst f4_; subst f5_))
     refine hK.out _ _ ⟨(blk_cell ae.out 0).trans rfl, (blk_cell ae.out 1).trans rfl, (blk_cell ad.out 0).trans rfl, (blk_cell ad.out 1).trans rfl⟩ (fun hHeld => ?_)
     clear hK K
     refine norm_ (a' := ?_) ?_ ?_
     rotate_left
     ·show Act.put _ (some 36) _ = _
      simp only [pS]
      rfl
     refine two_ (i := 5) (j := 10) (Ni := some 37) (Nj := some 42) #[true, true, true, true, true, true, true, true, true, true, false, false, false, false, false, false] #[true, true, true, true, true, false, true, true, true, true, true, false, false, false, false, false] rfl rfl rfl rfl (two_of HT_.out (by kernel_rfl)) (by decide) (by decide) (fun K hK => ?_) (fun K hK => ?_)
     ·skip
      refine goes_ Tryd.func20 (by kernel_rfl) rfl #[.slice aJ ay.length aK, .int .i64 aF, .slice cm bf.length cn] (by rfl) rfl rfl (by (try simp only [List.map_toArray, List.map_cons, List.map_nil]); first | done | rfl | (simp only [List.length_drop, List.length_take]; rfl)) ?_
      with_reducible refine (api_Node_20.calls (fun k_ => some k_ = (.slice aJ ay.length aK : Value).ownBlock) (.slice aJ ay.length aK) ay aF _ _ bf aY w _ ?side1 ?side2 ?side3 ?side4 A35.out).mono ?_
      (case side1 => repeat (first | (with_reducible first | exact HB.out | apply pA | apply pN | apply pD | refine eU ?_ (by assumption)) | exact HB.out))
      (case side2 => exact Kd.R_tight rfl ak.out)
      (case side3 => exact Kd.C_kept_own (aA.out) (fun k_ hk_ hs_ => (hk_.1.2) hs_))
      (case side4 => exact (Kd.R_reads' aA.out).2.1)
      rintro e w60 ⟨bb, rfl, ho0, hb, hkp⟩
      refine ⟨_, rfl, ?_⟩
      have n0_ := am (Kd.V_mono (ok' := fun k_ => ((P0_0_ k_ ∨ P0_1_ k_) ∨ w.heap.size ≤ k_) ∧ some k_ ≠ (.slice aD al.length aE : Value).ownBlock ∧ some k_ ≠ (.slice cm bf.length cn : Value).ownBlock ∧ k_ ≠ ax ∧ k_ ≠ aj ∧ k_ ≠ an ∧ k_ ≠ af ∧ some k_ ≠ (bb : Value).ownBlock) (Kd.V_keptB (aa.out) hkp (fun k_ hk_ hs_ => (hk_.1.2.1) hs_)) (fun k_ hk_ => ⟨hk_.1.1.1, hk_.1.1.2.2.1, hk_.1.2, hk_.1.1.2.2.2.1, hk_.1.1.2.2.2.2.1, hk_.1.1.2.2.2.2.2.1, hk_.1.1.2.2.2.2.2.2, fun e_ => Or.elim (ho0.1 k_ e_.symm) (fun hs_ => hk_.2.1 hs_) (fun hn_ => Nat.not_le.2 hk_.2.2 hn_)⟩))
      have n1_ := am (Kd.V_mono (ok' := fun k_ => ((P0_0_ k_ ∨ P0_1_ k_) ∨ w.heap.size ≤ k_) ∧ some k_ ≠ (.slice aD al.length aE : Value).ownBlock ∧ some k_ ≠ (.slice cm bf.length cn : Value).ownBlock ∧ k_ ≠ ax ∧ k_ ≠ aj ∧ k_ ≠ an ∧ k_ ≠ af ∧ some k_ ≠ (bb : Value).ownBlock) (Kd.V_keptB (ab.out) hkp (fun k_ hk_ hs_ => (hk_.1.2.1) hs_)) (fun k_ hk_ => ⟨hk_.1.1.1, hk_.1.1.2.2.1, hk_.1.2, hk_.1.1.2.2.2.1, hk_.1.1.2.2.2.2.1, hk_.1.1.2.2.2.2.2.1, hk_.1.1.2.2.2.2.2.2, fun e_ => Or.elim (ho0.1 k_ e_.symm) (fun hs_ => hk_.2.1 hs_) (fun hn_ => Nat.not_le.2 hk_.2.2 hn_)⟩))
      have n2_ := am (blk_kept (bT ac.out) hkp (fun hs_ => (fun e_ => (Kd.R_ne ak.out ac.out (by decide)) e_) hs_))
      have n3_ := am (blk_kept (bT ad.out) hkp (fun hs_ => (fun e_ => (Kd.R_away ak.out (fun _ hk => hk.1.2)) e_) hs_))
      have n4_ := am (blk_kept (bT ag.out) hkp (fun hs_ => (fun e_ => (Kd.R_ne ak.out ag.out (by decide)) e_) hs_))
      have n5_ := am (Kd.R_mono (ok' := fun k_ => (w.heap.size ≤ k_)) (Kd.R_keptB ((Kd.R_apart' ai.out (Kd.R_typed ak.out) (by decide))) hkp (fun k_ hk_ hs_ => (hk_.2) hs_)) (fun k_ hk_ => hk_.1.1))
      have n6_ := am (blk_kept (bT ae.out) hkp (fun hs_ => (fun e_ => (Kd.R_ne ak.out ae.out (by decide)) e_) hs_))
      have n7_ := am (Kd.R_mono (ok' := fun k_ => (w.heap.size ≤ k_) ∧ k_ ≠ aj ∧ some k_ ≠ (bb : Value).ownBlock) (Kd.R_keptB (aA.out) hkp (fun k_ hk_ hs_ => (hk_.1.2) hs_)) (fun k_ hk_ => ⟨hk_.1.1.1.1, hk_.1.2, fun e_ => Or.elim (ho0.1 k_ e_.symm) (fun hs_ => hk_.2.1 hs_) (fun hn_ => Nat.not_le.2 hk_.2.2 hn_)⟩))
      have n8_ := am (Kd.R_mono (ok' := fun k_ => (w.heap.size ≤ k_) ∧ some k_ ≠ (.slice cm bf.length cn : Value).ownBlock ∧ k_ ≠ aj) ho0 (fun k_ hk_ => ⟨Or.elim hk_ (fun hs_ => (ak.out.1 k_ (hs_).symm).1.1) (fun hn_ => (Nat.le_trans (below_size (eT HB.out)) hn_)), Or.elim hk_ (fun hs_ => fun e_ => (((aA.out).1 k_ e_.symm).1.2) hs_) (fun hn_ => (Kd.fresh' (Kd.R_lt (rT aA.out)) k_ hn_)), Or.elim hk_ (fun hs_ => fun e_ => (Kd.R_away ak.out (fun _ hk => hk.1.2)) (by rw [← e_]; exact hs_)) (fun hn_ => (Kd.freshB (g := aj) (o := .cells #[.string a1_0, .string a1_1] 27 (0, 0)) (bT ad.out) k_ hn_))⟩))
      have n9_ := am (hb)
      clear aa ab ac ad ag ai ae aA HB ak
      have aa := n0_
      have ab := n1_
      have ac := n2_
      have ad := n3_
      have ag := n4_
      have ai := n5_
      have ae := n6_
      have aA := n7_
      have bc := n8_
      have HB := n9_
      clear n0_ n1_ n2_ n3_ n4_ n5_ n6_ n7_ n8_ n9_
      (try clear hb)
      (try clear hkp)
      (try clear ho0)
      refine hK.out _ _ ⟨(blk_cell ae.out 0).trans rfl, (blk_cell ae.out 1).trans rfl, (blk_cell ad.out 0).trans rfl, (blk_cell ad.out 1).trans rfl⟩ (fun hHeld => ?_)
      clear hK K
      refine norm_ (a' := ?_) ?_ ?_
      rotate_left
      ·show Act.put _ (some 37) _ = _
       simp only [pS]
       rfl
      refine pure_ (i := 12) (N := some 44) (v := ?_) (a' := ?_) #[true, true, true, true, true, true, true, true, true, true, false, false, true, false, false, false] rfl rfl (any_of HT_.out (by kernel_rfl)) (fun _ _ _ h => h) (Or.inl ⟨by rfl, ?_⟩) ?_ ?_
      rotate_left
      ·intro w'
       go_simp
       with_reducible rfl
      rotate_left
      ·simp only [pS]
       rfl
      refine one_ (i := 10) (N := some 42) #[true, true, true, true, true, true, true, true, true, true, true, false, true, false, false, false] rfl rfl (one_of HT_.out (by kernel_rfl)) (by decide) (fun K hK => ?_)
      refine Kd.R_lit_step Kd.string _ 9 ?hg (N := 42) ?hd (xs := ([a2] : List ByteArray)) (inner := [.string a2]) (ok := fun _ => True) (okp := fun _ => True) ?hr ?hp (fun _ hk => hk) trivial (Below.refl _ _) (Nat.le_refl _) (by simp) ?_; (case hd => rfl); (case hg => rfl); (case hr => first | (go_simp; done) | (go_simp; rfl)); (case hp => exact (Reps.one (show Kd.M Kd.string _ _ _ a2 [.string a2] from rfl) (Reps.none _ _)))
      intro bH w61 ho62 hb hg_ hnew_
      clear hg_ hnew_
      (first | rw [← Ny281.out] at ho62 | (simp only [Int.reduceToNat] at ho62; rw [← Ny281.out] at ho62))
      have n0_ := am (Kd.V_elder' (vT aa.out) (Kd.R_base ho62) hb)
      have n1_ := am (Kd.V_elder' (vT ab.out) (Kd.R_base ho62) hb)
      have n2_ := am (Kd.R_elder' (rT ai.out) (Kd.R_base ho62) hb)
      have n3_ := am (rB aA.out hb)
      have n4_ := am (rB bc.out hb)
      have n5_ := am (Kd.R_lower (Kd.R_new' (Kd.R_newM (M := fun k_ => (w.heap.size ≤ k_)) ho62 (below_size (eT HB.out)) (fun k_ h_ => h_)) (Kd.R_lt (rT ai.out))) (below_size (eT HB.out)))
      have n6_ := am (bB ac.out hb)
      have n7_ := am (bB ad.out hb)
      have n8_ := am (bB ag.out hb)
      have n9_ := am (bB ae.out hb)
      have n10_ := am (sT HB.out hb)
      clear aa ab ai aA bc ac ad ag ae HB
      have aa := n0_
      have ab := n1_
      have ai := n2_
      have aA := n3_
      have bc := n4_
      have aL := n5_
      have ac := n6_
      have ad := n7_
      have ag := n8_
      have ae := n9_
      have HB := n10_
      clear n0_ n1_ n2_ n3_ n4_ n5_ n6_ n7_ n8_ n9_ n10_ hb ho62
      refine hK.out _ _ ⟨(blk_cell ae.out 0).trans rfl, (blk_cell ae.out 1).trans rfl, (blk_cell ad.out 0).trans rfl, (blk_cell ad.out 1).trans rfl⟩ (fun hHeld => ?_)
      clear hK K
      refine norm_ (a' := ?_) ?_ ?_
      rotate_left
      ·show Act.put _ (some 42) _ = _
       simp only [pS]
       rfl
      exact norm_ (by simp only [putAll, Act.put, List.setIfInBounds_toArray, List.set_cons_zero, List.set_cons_succ]) (hCont (.slice cm bf.length cn, bb, bH) _ ⟨hHeld, (by (with_reducible repeat (first | apply Kd.V_alloc | apply Kd.V_drewN | apply Kd.V_drew)); exact Kd.V_mono aa.out (fun _ hk => ⟨hk.1.1, ⟨hk.1.2.1, ⟨hk.1.2.2.1, ⟨hk.1.2.2.2.2.2.2.2, ⟨hk.2, ⟨hk.1.2.2.2.1, ⟨hk.1.2.2.2.2.1, ⟨hk.1.2.2.2.2.2.1, hk.1.2.2.2.2.2.2.1⟩⟩⟩⟩⟩⟩⟩⟩)), (by (with_reducible repeat (first | apply Kd.V_alloc | apply Kd.V_drewN | apply Kd.V_drew)); exact Kd.V_mono ab.out (fun _ hk => ⟨hk.1.1, ⟨hk.1.2.1, ⟨hk.1.2.2.1, ⟨hk.1.2.2.2.2.2.2.2, ⟨hk.2, ⟨hk.1.2.2.2.1, ⟨hk.1.2.2.2.2.1, ⟨hk.1.2.2.2.2.2.1, hk.1.2.2.2.2.2.2.1⟩⟩⟩⟩⟩⟩⟩⟩)), (rT ai.out), (by (with_reducible repeat (first | apply Kd.R_alloc | apply Kd.R_drewN | apply Kd.R_drew)); exact Kd.R_mono aA.out (fun _ hk => ⟨hk.1, ⟨hk.2.2, hk.2.1⟩⟩)), (rT bc.out), (by (with_reducible repeat (first | apply Kd.R_alloc | apply Kd.R_drewN | apply Kd.R_drew)); exact Kd.R_mono aL.out (fun _ hk => ⟨hk.1.1, hk.2⟩)), (bT ac.out), (bT ad.out), (bT ag.out), (bT ae.out), (eT HB.out)⟩)
     ·skip
      refine Kd.R_lit_step Kd.string _ 9 ?hg (N := 42) ?hd (xs := ([a2] : List ByteArray)) (inner := [.string a2]) (ok := fun _ => True) (okp := fun _ => True) ?hr ?hp (fun _ hk => hk) trivial (Below.refl _ _) (Nat.le_refl _) (by simp) ?_; (case hd => rfl); (case hg => rfl); (case hr => first | (go_simp; done) | (go_simp; rfl)); (case hp => exact (Reps.one (show Kd.M Kd.string _ _ _ a2 [.string a2] from rfl) (Reps.none _ _)))
      intro bH w59 ho60 hb hg_ hnew_
      clear hg_ hnew_
      (first | rw [← Ny281.out] at ho60 | (simp only [Int.reduceToNat] at ho60; rw [← Ny281.out] at ho60))
      have n0_ := am (Kd.V_elder' (vT aa.out) (Kd.R_base ho60) hb)
      have n1_ := am (Kd.V_elder' (vT ab.out) (Kd.R_base ho60) hb)
      have n2_ := am (rB ak.out hb)
      have n3_ := am (Kd.R_elder' (rT ai.out) (Kd.R_base ho60) hb)
      have n4_ := am (rB aA.out hb)
      have n5_ := am (Kd.R_lower (Kd.R_new' (Kd.R_newM (M := fun k_ => (w.heap.size ≤ k_)) ho60 (below_size (eT HB.out)) (fun k_ h_ => h_)) (Kd.R_lt (rT ai.out))) (below_size (eT HB.out)))
      have n6_ := am (bB ac.out hb)
      have n7_ := am (bB ad.out hb)
      have n8_ := am (bB ag.out hb)
      have n9_ := am (bB ae.out hb)
      have n10_ := am (sT HB.out hb)
      clear aa ab ak ai aA ac ad ag ae HB
      have aa := n0_
      have ab := n1_
      have ak := n2_
      have ai := n3_
      have aA := n4_
      have aL := n5_
      have ac := n6_
      have ad := n7_
      have ag := n8_
      have ae := n9_
      have HB := n10_
      clear n0_ n1_ n2_ n3_ n4_ n5_ n6_ n7_ n8_ n9_ n10_ hb ho60
      obtain ⟨bQ, bR, co⟩ := Kd.R_slice aA.out
      (first | subst co | (injection co with f1_ f2_ f3_; have f4_ := f1_.symm; have f5_ := f3_.symm; clear f1_ f2_ f3_; subst f4_; subst f5_))
      refine hK.out _ _ ⟨(blk_cell ae.out 0).trans rfl, (blk_cell ae.out 1).trans rfl, (blk_cell ad.out 0).trans rfl, (blk_cell ad.out 1).trans rfl⟩ (fun hHeld => ?_)
      clear hK K
      refine norm_ (a' := ?_) ?_ ?_
      rotate_left
      ·show Act.put _ (some 42) _ = _
       simp only [pS]
       rfl
      refine one_ (i := 5) (N := some 37) #[true, true, true, true, true, true, true, true, true, true, true, false, false, false, false, false] rfl rfl (one_of HT_.out (by kernel_rfl)) (by decide) (fun K hK => ?_)
      refine goes_ Tryd.func20 (by kernel_rfl) rfl #[.slice aJ ay.length aK, .int .i64 aF, .slice bQ bf.length bR] (by rfl) rfl rfl (by (try simp only [List.map_toArray, List.map_cons, List.map_nil]); first | done | rfl | (simp only [List.length_drop, List.length_take]; rfl)) ?_
      with_reducible refine (api_Node_20.calls (fun k_ => some k_ = (.slice aJ ay.length aK : Value).ownBlock) (.slice aJ ay.length aK) ay aF _ _ bf aY w _ ?side1 ?side2 ?side3 ?side4 A35.out).mono ?_
      (case side1 => repeat (first | (with_reducible first | exact HB.out | apply pA | apply pN | apply pD | refine eU ?_ (by assumption)) | exact HB.out))
      (case side2 => exact Kd.R_tight rfl ak.out)
      (case side3 => exact Kd.C_kept_own (aA.out) (fun k_ hk_ hs_ => (hk_.1.2) hs_))
      (case side4 => exact (Kd.R_reads' aA.out).2.1)
      rintro e w62 ⟨bb, rfl, ho0, hb, hkp⟩
      refine ⟨_, rfl, ?_⟩
      have n0_ := am (Kd.V_mono (ok' := fun k_ => ((P0_0_ k_ ∨ P0_1_ k_) ∨ w.heap.size ≤ k_) ∧ some k_ ≠ (.slice aD al.length aE : Value).ownBlock ∧ some k_ ≠ (.slice bQ bf.length bR : Value).ownBlock ∧ some k_ ≠ (bH : Value).ownBlock ∧ k_ ≠ ax ∧ k_ ≠ aj ∧ k_ ≠ an ∧ k_ ≠ af ∧ some k_ ≠ (bb : Value).ownBlock) (Kd.V_keptB (aa.out) hkp (fun k_ hk_ hs_ => (hk_.1.1.2.1) hs_)) (fun k_ hk_ => ⟨hk_.1.1.1.1, hk_.1.1.1.2.2.1, hk_.1.1.2, hk_.1.2, hk_.1.1.1.2.2.2.1, hk_.1.1.1.2.2.2.2.1, hk_.1.1.1.2.2.2.2.2.1, hk_.1.1.1.2.2.2.2.2.2, fun e_ => Or.elim (ho0.1 k_ e_.symm) (fun hs_ => hk_.2.1 hs_) (fun hn_ => Nat.not_le.2 hk_.2.2 hn_)⟩))
      have n1_ := am (Kd.V_mono (ok' := fun k_ => ((P0_0_ k_ ∨ P0_1_ k_) ∨ w.heap.size ≤ k_) ∧ some k_ ≠ (.slice aD al.length aE : Value).ownBlock ∧ some k_ ≠ (.slice bQ bf.length bR : Value).ownBlock ∧ some k_ ≠ (bH : Value).ownBlock ∧ k_ ≠ ax ∧ k_ ≠ aj ∧ k_ ≠ an ∧ k_ ≠ af ∧ some k_ ≠ (bb : Value).ownBlock) (Kd.V_keptB (ab.out) hkp (fun k_ hk_ hs_ => (hk_.1.1.2.1) hs_)) (fun k_ hk_ => ⟨hk_.1.1.1.1, hk_.1.1.1.2.2.1, hk_.1.1.2, hk_.1.2, hk_.1.1.1.2.2.2.1, hk_.1.1.1.2.2.2.2.1, hk_.1.1.1.2.2.2.2.2.1, hk_.1.1.1.2.2.2.2.2.2, fun e_ => Or.elim (ho0.1 k_ e_.symm) (fun hs_ => hk_.2.1 hs_) (fun hn_ => Nat.not_le.2 hk_.2.2 hn_)⟩))
      have n2_ := am (blk_kept (bT ac.out) hkp (fun hs_ => (fun e_ => (Kd.R_ne ak.out ac.out (by decide)) e_) hs_))
      have n3_ := am (blk_kept (bT ad.out) hkp (fun hs_ => (fun e_ => (Kd.R_away ak.out (fun _ hk => hk.1.2)) e_) hs_))
      have n4_ := am (blk_kept (bT ag.out) hkp (fun hs_ => (fun e_ => (Kd.R_ne ak.out ag.out (by decide)) e_) hs_))
      have n5_ := am (Kd.R_mono (ok' := fun k_ => (w.heap.size ≤ k_) ∧ some k_ ≠ (bH : Value).ownBlock) (Kd.R_keptB ((Kd.R_apart' ai.out (Kd.R_typed ak.out) (by decide))) hkp (fun k_ hk_ hs_ => (hk_.2) hs_)) (fun k_ hk_ => ⟨hk_.1.1.1, hk_.1.1.2⟩))
      have n6_ := am (blk_kept (bT ae.out) hkp (fun hs_ => (fun e_ => (Kd.R_ne ak.out ae.out (by decide)) e_) hs_))
      have n7_ := am (Kd.R_mono (ok' := fun k_ => (w.heap.size ≤ k_) ∧ k_ ≠ aj ∧ some k_ ≠ (bb : Value).ownBlock) (Kd.R_keptB (aA.out) hkp (fun k_ hk_ hs_ => (hk_.1.2) hs_)) (fun k_ hk_ => ⟨hk_.1.1.1.1, hk_.1.2, fun e_ => Or.elim (ho0.1 k_ e_.symm) (fun hs_ => hk_.2.1 hs_) (fun hn_ => Nat.not_le.2 hk_.2.2 hn_)⟩))
      have n8_ := am (Kd.R_mono (ok' := fun k_ => (w.heap.size ≤ k_) ∧ some k_ ≠ (.slice aD al.length aE : Value).ownBlock) (Kd.R_keptB ((Kd.R_apart' aL.out (Kd.R_typed ak.out) (by decide))) hkp (fun k_ hk_ hs_ => (hk_.2) hs_)) (fun k_ hk_ => ⟨hk_.1.1.1.1, hk_.1.1.2⟩))
      have n9_ := am (Kd.R_mono (ok' := fun k_ => (w.heap.size ≤ k_) ∧ some k_ ≠ (.slice bQ bf.length bR : Value).ownBlock ∧ k_ ≠ aj) ho0 (fun k_ hk_ => ⟨Or.elim hk_ (fun hs_ => (ak.out.1 k_ (hs_).symm).1.1) (fun hn_ => (Nat.le_trans (below_size (eT HB.out)) hn_)), Or.elim hk_ (fun hs_ => fun e_ => (((aA.out).1 k_ e_.symm).1.2) hs_) (fun hn_ => (Kd.fresh' (Kd.R_lt (rT aA.out)) k_ hn_)), Or.elim hk_ (fun hs_ => fun e_ => (Kd.R_away ak.out (fun _ hk => hk.1.2)) (by rw [← e_]; exact hs_)) (fun hn_ => (Kd.freshB (g := aj) (o := .cells #[.string a1_0, .string a1_1] 27 (0, 0)) (bT ad.out) k_ hn_))⟩))
      have n10_ := am (hb)
      clear aa ab ac ad ag ai ae aA aL HB ak
      have aa := n0_
      have ab := n1_
      have ac := n2_
      have ad := n3_
      have ag := n4_
      have ai := n5_
      have ae := n6_
      have aA := n7_
      have aL := n8_
      have bc := n9_
      have HB := n10_
      clear n0_ n1_ n2_ n3_ n4_ n5_ n6_ n7_ n8_ n9_ n10_
      (try clear hb)
      (try clear hkp)
      (try clear ho0)
      refine hK.out _ _ ⟨(blk_cell ae.out 0).trans rfl, (blk_cell ae.out 1).trans rfl, (blk_cell ad.out 0).trans rfl, (blk_cell ad.out 1).trans rfl⟩ (fun hHeld => ?_)
      clear hK K
      refine norm_ (a' := ?_) ?_ ?_
      rotate_left
      ·show Act.put _ (some 37) _ = _
       simp only [pS]
       rfl
      refine pure_ (i := 12) (N := some 44) (v := ?_) (a' := ?_) #[true, true, true, true, true, true, true, true, true, true, true, false, true, false, false, false] rfl rfl (any_of HT_.out (by kernel_rfl)) (fun _ _ _ h => h) (Or.inl ⟨by rfl, ?_⟩) ?_ ?_
      rotate_left
      ·intro w'
       go_simp
       with_reducible rfl
      rotate_left
      ·simp only [pS]
       rfl
      exact norm_ (by simp only [putAll, Act.put, List.setIfInBounds_toArray, List.set_cons_zero, List.set_cons_succ]) (hCont (.slice bQ bf.length bR, bb, bH) _ ⟨hHeld, (by (with_reducible repeat (first | apply Kd.V_alloc | apply Kd.V_drewN | apply Kd.V_drew)); exact Kd.V_mono aa.out (fun _ hk => ⟨hk.1, ⟨hk.2.1, ⟨hk.2.2.1, ⟨hk.2.2.2.2.2.2.2.2, ⟨hk.2.2.2.1, ⟨hk.2.2.2.2.1, ⟨hk.2.2.2.2.2.1, ⟨hk.2.2.2.2.2.2.1, hk.2.2.2.2.2.2.2.1⟩⟩⟩⟩⟩⟩⟩⟩)), (by (with_reducible repeat (first | apply Kd.V_alloc | apply Kd.V_drewN | apply Kd.V_drew)); exact Kd.V_mono ab.out (fun _ hk => ⟨hk.1, ⟨hk.2.1, ⟨hk.2.2.1, ⟨hk.2.2.2.2.2.2.2.2, ⟨hk.2.2.2.1, ⟨hk.2.2.2.2.1, ⟨hk.2.2.2.2.2.1, ⟨hk.2.2.2.2.2.2.1, hk.2.2.2.2.2.2.2.1⟩⟩⟩⟩⟩⟩⟩⟩)), (rT ai.out), (by (with_reducible repeat (first | apply Kd.R_alloc | apply Kd.R_drewN | apply Kd.R_drew)); exact Kd.R_mono aA.out (fun _ hk => ⟨hk.1, ⟨hk.2.2, hk.2.1⟩⟩)), (rT bc.out), (rT aL.out), (bT ac.out), (bT ad.out), (bT ag.out), (bT ae.out), (eT HB.out)⟩)
    ·skip
     refine Kd.R_lit_step Kd.string _ 9 ?hg (N := 42) ?hd (xs := ([a2] : List ByteArray)) (inner := [.string a2]) (ok := fun _ => True) (okp := fun _ => True) ?hr ?hp (fun _ hk => hk) trivial (Below.refl _ _) (Nat.le_refl _) (by simp) ?_; (case hd => rfl); (case hg => rfl); (case hr => first | (go_simp; done) | (go_simp; rfl)); (case hp => exact (Reps.one (show Kd.M Kd.string _ _ _ a2 [.string a2] from rfl) (Reps.none _ _)))
     intro bH w57 ho58 hb hg_ hnew_
     clear hg_ hnew_
     (first | rw [← Ny281.out] at ho58 | (simp only [Int.reduceToNat] at ho58; rw [← Ny281.out] at ho58))
     have n0_ := am (Kd.V_elder' (vT aa.out) (Kd.R_base ho58) hb)
     have n1_ := am (Kd.V_elder' (vT ab.out) (Kd.R_base ho58) hb)
     have n2_ := am (rB ak.out hb)
     have n3_ := am (Kd.R_elder' (rT ai.out) (Kd.R_base ho58) hb)
     have n4_ := am (Kd.R_lower (Kd.R_new' (Kd.R_newM (M := fun k_ => (w.heap.size ≤ k_)) ho58 (below_size (eT HB.out)) (fun k_ h_ => h_)) (Kd.R_lt (rT ai.out))) (below_size (eT HB.out)))
     have n5_ := am (bB ac.out hb)
     have n6_ := am (bB ad.out hb)
     have n7_ := am (bB ag.out hb)
     have n8_ := am (bB ae.out hb)
     have n9_ := am (sT HB.out hb)
     clear aa ab ak ai ac ad ag ae HB
     have aa := n0_
     have ab := n1_
     have ak := n2_
     have ai := n3_
     have aL := n4_
     have ac := n5_
     have ad := n6_
     have ag := n7_
     have ae := n8_
     have HB := n9_
     clear n0_ n1_ n2_ n3_ n4_ n5_ n6_ n7_ n8_ n9_ hb ho58
     refine hK.out _ _ ⟨(blk_cell ae.out 0).trans rfl, (blk_cell ae.out 1).trans rfl, (blk_cell ad.out 0).trans rfl, (blk_cell ad.out 1).trans rfl⟩ (fun hHeld => ?_)
     clear hK K
     refine norm_ (a' := ?_) ?_ ?_
     rotate_left
     ·show Act.put _ (some 42) _ = _
      simp only [pS]
      rfl
     refine one_ (i := 4) (N := some 36) #[true, true, true, true, true, false, true, true, true, true, true, false, false, false, false, false] rfl rfl (one_of HT_.out (by kernel_rfl)) (by decide) (fun K hK => ?_)
     refine Kd.R_lit_step k27 _ 27 ?hg (N := 36) ?hd (xs := ([(⟨a1_0, a1_1⟩ : S27)] : List (S27))) (inner := [.string a1_0, .string a1_1]) (ok := fun _ => True) (okp := fun _ => True) ?hr ?hp (fun _ hk => hk) trivial (Below.refl _ _) (Nat.le_refl _) (by simp) ?_; (case hd => rfl); (case hg => rfl); (case hr => first | (go_simp; done) | (go_simp; rfl)); (case hp => exact (Reps.c2 (show Kd.M k27 _ _ _ (⟨a1_0, a1_1⟩ : S27) [.string a1_0, .string a1_1] from (k27_mkM _ _ _ (⟨a1_0, a1_1⟩ : S27) )) (Reps.none _ _)))
     intro b0 w59 ho60 hb hg_ hnew_
     clear hg_ hnew_
     (first | rw [← Ny275.out] at ho60 | (simp only [Int.reduceToNat] at ho60; rw [← Ny275.out] at ho60))
     have n0_ := am (Kd.V_elder' (vT aa.out) (Kd.R_base ho60) hb)
     have n1_ := am (Kd.V_elder' (vT ab.out) (Kd.R_base ho60) hb)
     have n2_ := am (Kd.R_elder' (rT ak.out) (Kd.R_base ho60) hb)
     have n3_ := am (rB ai.out hb)
     have n4_ := am (rB aL.out hb)
     have n5_ := am (Kd.R_lower (Kd.R_newB (Kd.R_new' (Kd.R_newM (M := fun k_ => (w.heap.size ≤ k_)) ho60 (below_size (eT HB.out)) (fun k_ h_ => h_)) (Kd.R_lt (rT ak.out))) (g := aj) (o := .cells #[.string a1_0, .string a1_1] 27 (0, 0)) (bT ad.out)) (below_size (eT HB.out)))
     have n6_ := am (bB ac.out hb)
     have n7_ := am (bB ad.out hb)
     have n8_ := am (bB ag.out hb)
     have n9_ := am (bB ae.out hb)
     have n10_ := am (sT HB.out hb)
     clear aa ab ak ai aL ac ad ag ae HB
     have aa := n0_
     have ab := n1_
     have ak := n2_
     have ai := n3_
     have aL := n4_
     have aA := n5_
     have ac := n6_
     have ad := n7_
     have ag := n8_
     have ae := n9_
     have HB := n10_
     clear n0_ n1_ n2_ n3_ n4_ n5_ n6_ n7_ n8_ n9_ n10_ hb ho60
     obtain ⟨bQ, bR, co⟩ := Kd.R_slice aA.out
     (first | subst co | (injection co with f1_ f2_ f3_; have f4_ := f1_.symm; have f5_ := f3_.symm; clear f1_ f2_ f3_; subst f4_; subst f5_))
     refine hK.out _ _ ⟨(blk_cell ae.out 0).trans rfl, (blk_cell ae.out 1).trans rfl, (blk_cell ad.out 0).trans rfl, (blk_cell ad.out 1).trans rfl⟩ (fun hHeld => ?_)
     clear hK K
     refine norm_ (a' := ?_) ?_ ?_
     rotate_left
     ·show Act.put _ (some 36) _ = _
      simp only [pS]
      rfl
     refine one_ (i := 5) (N := some 37) #[true, true, true, true, true, true, true, true, true, true, true, false, false, false, false, false] rfl rfl (one_of HT_.out (by kernel_rfl)) (by decide) (fun K hK => ?_)
     refine goes_ Tryd.func20 (by kernel_rfl) rfl #[.slice aJ ay.length aK, .int .i64 aF, .slice bQ bf.length bR] (by rfl) rfl rfl (by (try simp only [List.map_toArray, List.map_cons, List.map_nil]); first | done | rfl | (simp only [List.length_drop, List.length_take]; rfl)) ?_
     with_reducible refine (api_Node_20.calls (fun k_ => some k_ = (.slice aJ ay.length aK : Value).ownBlock) (.slice aJ ay.length aK) ay aF _ _ bf aY w _ ?side1 ?side2 ?side3 ?side4 A35.out).mono ?_
     (case side1 => repeat (first | (with_reducible first | exact HB.out | apply pA | apply pN | apply pD | refine eU ?_ (by assumption)) | exact HB.out))
     (case side2 => exact Kd.R_tight rfl ak.out)
     (case side3 => exact Kd.C_kept_own (aA.out) (fun k_ hk_ hs_ => (hk_.1.2) hs_))
     (case side4 => exact (Kd.R_reads' aA.out).2.1)
     rintro e w62 ⟨bb, rfl, ho0, hb, hkp⟩
     refine ⟨_, rfl, ?_⟩
     have n0_ := am (Kd.V_mono (ok' := fun k_ => ((P0_0_ k_ ∨ P0_1_ k_) ∨ w.heap.size ≤ k_) ∧ some k_ ≠ (.slice aD al.length aE : Value).ownBlock ∧ some k_ ≠ (bH : Value).ownBlock ∧ some k_ ≠ (.slice bQ bf.length bR : Value).ownBlock ∧ k_ ≠ ax ∧ k_ ≠ aj ∧ k_ ≠ an ∧ k_ ≠ af ∧ some k_ ≠ (bb : Value).ownBlock) (Kd.V_keptB (aa.out) hkp (fun k_ hk_ hs_ => (hk_.1.1.2.1) hs_)) (fun k_ hk_ => ⟨hk_.1.1.1.1, hk_.1.1.1.2.2.1, hk_.1.1.2, hk_.1.2, hk_.1.1.1.2.2.2.1, hk_.1.1.1.2.2.2.2.1, hk_.1.1.1.2.2.2.2.2.1, hk_.1.1.1.2.2.2.2.2.2, fun e_ => Or.elim (ho0.1 k_ e_.symm) (fun hs_ => hk_.2.1 hs_) (fun hn_ => Nat.not_le.2 hk_.2.2 hn_)⟩))
     have n1_ := am (Kd.V_mono (ok' := fun k_ => ((P0_0_ k_ ∨ P0_1_ k_) ∨ w.heap.size ≤ k_) ∧ some k_ ≠ (.slice aD al.length aE : Value).ownBlock ∧ some k_ ≠ (bH : Value).ownBlock ∧ some k_ ≠ (.slice bQ bf.length bR : Value).ownBlock ∧ k_ ≠ ax ∧ k_ ≠ aj ∧ k_ ≠ an ∧ k_ ≠ af ∧ some k_ ≠ (bb : Value).ownBlock) (Kd.V_keptB (ab.out) hkp (fun k_ hk_ hs_ => (hk_.1.1.2.1) hs_)) (fun k_ hk_ => ⟨hk_.1.1.1.1, hk_.1.1.1.2.2.1, hk_.1.1.2, hk_.1.2, hk_.1.1.1.2.2.2.1, hk_.1.1.1.2.2.2.2.1, hk_.1.1.1.2.2.2.2.2.1, hk_.1.1.1.2.2.2.2.2.2, fun e_ => Or.elim (ho0.1 k_ e_.symm) (fun hs_ => hk_.2.1 hs_) (fun hn_ => Nat.not_le.2 hk_.2.2 hn_)⟩))
     have n2_ := am (blk_kept (bT ac.out) hkp (fun hs_ => (fun e_ => (Kd.R_ne ak.out ac.out (by decide)) e_) hs_))
     have n3_ := am (blk_kept (bT ad.out) hkp (fun hs_ => (fun e_ => (Kd.R_away ak.out (fun _ hk => hk.1.2)) e_) hs_))
     have n4_ := am (blk_kept (bT ag.out) hkp (fun hs_ => (fun e_ => (Kd.R_ne ak.out ag.out (by decide)) e_) hs_))
     have n5_ := am (Kd.R_mono (ok' := fun k_ => (w.heap.size ≤ k_) ∧ some k_ ≠ (bH : Value).ownBlock) (Kd.R_keptB ((Kd.R_apart' ai.out (Kd.R_typed ak.out) (by decide))) hkp (fun k_ hk_ hs_ => (hk_.2) hs_)) (fun k_ hk_ => ⟨hk_.1.1.1, hk_.1.1.2⟩))
     have n6_ := am (blk_kept (bT ae.out) hkp (fun hs_ => (fun e_ => (Kd.R_ne ak.out ae.out (by decide)) e_) hs_))
     have n7_ := am (Kd.R_mono (ok' := fun k_ => (w.heap.size ≤ k_) ∧ some k_ ≠ (.slice aD al.length aE : Value).ownBlock) (Kd.R_keptB ((Kd.R_apart' aL.out (Kd.R_typed ak.out) (by decide))) hkp (fun k_ hk_ hs_ => (hk_.2) hs_)) (fun k_ hk_ => ⟨hk_.1.1.1.1, hk_.1.1.2⟩))
     have n8_ := am (Kd.R_mono (ok' := fun k_ => (w.heap.size ≤ k_) ∧ k_ ≠ aj ∧ some k_ ≠ (bb : Value).ownBlock) (Kd.R_keptB (aA.out) hkp (fun k_ hk_ hs_ => (hk_.1.2) hs_)) (fun k_ hk_ => ⟨hk_.1.1.1.1, hk_.1.2, fun e_ => Or.elim (ho0.1 k_ e_.symm) (fun hs_ => hk_.2.1 hs_) (fun hn_ => Nat.not_le.2 hk_.2.2 hn_)⟩))
     have n9_ := am (Kd.R_mono (ok' := fun k_ => (w.heap.size ≤ k_) ∧ some k_ ≠ (.slice bQ bf.length bR : Value).ownBlock ∧ k_ ≠ aj) ho0 (fun k_ hk_ => ⟨Or.elim hk_ (fun hs_ => (ak.out.1 k_ (hs_).symm).1.1) (fun hn_ => (Nat.le_trans (below_size (eT HB.out)) hn_)), Or.elim hk_ (fun hs_ => fun e_ => (((aA.out).1 k_ e_.symm).1.2) hs_) (fun hn_ => (Kd.fresh' (Kd.R_lt (rT aA.out)) k_ hn_)), Or.elim hk_ (fun hs_ => fun e_ => (Kd.R_away ak.out (fun _ hk => hk.1.2)) (by rw [← e_]; exact hs_)) (fun hn_ => (Kd.freshB (g := aj) (o := .cells #[.string a1_0, .string a1_1] 27 (0, 0)) (bT ad.out) k_ hn_))⟩))
     have n10_ := am (hb)
     clear aa ab ac ad ag ai ae aL aA HB ak
     have aa := n0_
     have ab := n1_
     have ac := n2_
     have ad := n3_
     have ag := n4_
     have ai := n5_
     have ae := n6_
     have aL := n7_
     have aA := n8_
     have bc := n9_
     have HB := n10_
     clear n0_ n1_ n2_ n3_ n4_ n5_ n6_ n7_ n8_ n9_ n10_
     (try clear hb)
     (try clear hkp)
     (try clear ho0)
     refine hK.out _ _ ⟨(blk_cell ae.out 0).trans rfl, (blk_cell ae.out 1).trans rfl, (blk_cell ad.out 0).trans rfl, (blk_cell ad.out 1).trans rfl⟩ (fun hHeld => ?_)
     clear hK K
     refine norm_ (a' := ?_) ?_ ?_
     rotate_left
     ·show Act.put _ (some 37) _ = _
      simp only [pS]
      rfl
     refine pure_ (i := 12) (N := some 44) (v := ?_) (a' := ?_) #[true, true, true, true, true, true, true, true, true, true, true, false, true, false, false, false] rfl rfl (any_of HT_.out (by kernel_rfl)) (fun _ _ _ h => h) (Or.inl ⟨by rfl, ?_⟩) ?_ ?_
     rotate_left
     ·intro w'
      go_simp
      with_reducible rfl
     rotate_left
     ·simp only [pS]
      rfl
     exact norm_ (by simp only [putAll, Act.put, List.setIfInBounds_toArray, List.set_cons_zero, List.set_cons_succ]) (hCont (.slice bQ bf.length bR, bb, bH) _ ⟨hHeld, (by (with_reducible repeat (first | apply Kd.V_alloc | apply Kd.V_drewN | apply Kd.V_drew)); exact Kd.V_mono aa.out (fun _ hk => ⟨hk.1, ⟨hk.2.1, ⟨hk.2.2.2.1, ⟨hk.2.2.2.2.2.2.2.2, ⟨hk.2.2.1, ⟨hk.2.2.2.2.1, ⟨hk.2.2.2.2.2.1, ⟨hk.2.2.2.2.2.2.1, hk.2.2.2.2.2.2.2.1⟩⟩⟩⟩⟩⟩⟩⟩)), (by (with_reducible repeat (first | apply Kd.V_alloc | apply Kd.V_drewN | apply Kd.V_drew)); exact Kd.V_mono ab.out (fun _ hk => ⟨hk.1, ⟨hk.2.1, ⟨hk.2.2.2.1, ⟨hk.2.2.2.2.2.2.2.2, ⟨hk.2.2.1, ⟨hk.2.2.2.2.1, ⟨hk.2.2.2.2.2.1, ⟨hk.2.2.2.2.2.2.1, hk.2.2.2.2.2.2.2.1⟩⟩⟩⟩⟩⟩⟩⟩)), (rT ai.out), (by (with_reducible repeat (first | apply Kd.R_alloc | apply Kd.R_drewN | apply Kd.R_drew)); exact Kd.R_mono aA.out (fun _ hk => ⟨hk.1, ⟨hk.2.2, hk.2.1⟩⟩)), (rT bc.out), (rT aL.out), (bT ac.out), (bT ad.out), (bT ag.out), (bT ae.out), (eT HB.out)⟩)
   rintro ⟨b0, bb, bH⟩ w63 ⟨hS_, h0_, h1_, h2_, h3_, h4_, h5_, h6_, h7_, h8_, h9_, h10_⟩
   have n0_ : Aside0 (Kd.V k27 27 w63 w.heap.size (fun k_ => ((P0_0_ k_ ∨ P0_1_ k_) ∨ w.heap.size ≤ k_) ∧ some k_ ≠ (.slice aD al.length aE : Value).ownBlock ∧ some k_ ≠ (b0 : Value).ownBlock ∧ some k_ ≠ (bb : Value).ownBlock ∧ some k_ ≠ (bH : Value).ownBlock ∧ k_ ≠ ax ∧ k_ ≠ aj ∧ k_ ≠ an ∧ k_ ≠ af) (.slice aq l0_0.length ar) l0_0) := ⟨h0_⟩
   have n1_ : Aside0 (Kd.V Kd.string 9 w63 w.heap.size (fun k_ => ((P0_0_ k_ ∨ P0_1_ k_) ∨ w.heap.size ≤ k_) ∧ some k_ ≠ (.slice aD al.length aE : Value).ownBlock ∧ some k_ ≠ (b0 : Value).ownBlock ∧ some k_ ≠ (bb : Value).ownBlock ∧ some k_ ≠ (bH : Value).ownBlock ∧ k_ ≠ ax ∧ k_ ≠ aj ∧ k_ ≠ an ∧ k_ ≠ af) (.slice au l0_1.length av) l0_1) := ⟨h1_⟩
   have n2_ : Aside0 (Kd.R Kd.string 9 w63 w.heap.size (fun k_ => (w.heap.size ≤ k_) ∧ some k_ ≠ (bH : Value).ownBlock) (.slice aD al.length aE) al) := ⟨h2_⟩
   have n3_ : Aside0 (Kd.R k27 27 w63 w.heap.size (fun k_ => (w.heap.size ≤ k_) ∧ some k_ ≠ (bb : Value).ownBlock ∧ k_ ≠ aj) b0 bf) := ⟨h3_⟩
   have n4_ : Aside0 (Kd.R k27 27 w63 w.heap.size (fun k_ => (w.heap.size ≤ k_) ∧ some k_ ≠ (b0 : Value).ownBlock ∧ k_ ≠ aj) bb aY) := ⟨h4_⟩
   have n5_ : Aside0 (Kd.R Kd.string 9 w63 w.heap.size (fun k_ => (w.heap.size ≤ k_) ∧ some k_ ≠ (.slice aD al.length aE : Value).ownBlock) bH b8) := ⟨h5_⟩
   have n6_ : Aside0 (w63.heap[ax]? = some (.cells #[.slice aq l0_0.length ar, .slice au l0_1.length av] 25 (0, 0))) := ⟨h6_⟩
   have n7_ : Aside0 (w63.heap[aj]? = some (.cells #[.string a1_0, .string a1_1] 27 (0, 0))) := ⟨h7_⟩
   have n8_ : Aside0 (w63.heap[an]? = some (.cells #[.slice none 0 0, .slice none 0 0] 25 (0, 0))) := ⟨h8_⟩
   have n9_ : Aside0 (w63.heap[af]? = some (.cells #[.slice aJ ay.length aK, .slice aD al.length aE] 25 (0, 0))) := ⟨h9_⟩
   have n10_ : Aside0 (Below w.heap.size w w63) := ⟨h10_⟩
   clear aa ab ak ai ac ad ag ae HB h0_ h1_ h2_ h3_ h4_ h5_ h6_ h7_ h8_ h9_ h10_
   have aa := n0_
   have ab := n1_
   have ai := n2_
   have aA := n3_
   have bc := n4_
   have aL := n5_
   have ac := n6_
   have ad := n7_
   have ag := n8_
   have ae := n9_
   have HB := n10_
   clear n0_ n1_ n2_ n3_ n4_ n5_ n6_ n7_ n8_ n9_ n10_
   have hHeld : w63.cell? ⟨af, 0, none⟩ = some (.slice aJ ay.length aK) ∧ w63.cell? ⟨af, 1, none⟩ = some (.slice aD al.length aE) ∧ w63.cell? ⟨aj, 0, none⟩ = some (.string a1_0) ∧ w63.cell? ⟨aj, 1, none⟩ = some (.string a1_1) := hS_
   obtain ⟨cQ, cR, dW⟩ := Kd.R_slice aL.out
   (first | subst dW | (injection dW with f1_ f2_ f3_; have f4_ := f1_.symm; have f5_ := f3_.symm; clear f1_ f2_ f3_; subst f4_; subst f5_))
   refine norm_ (a' := ?_) ?_ ?_
   rotate_left
   ·simp only [putAll, Act.put, List.setIfInBounds_toArray, List.set_cons_zero, List.set_cons_succ]
    rfl
   refine one_ (i := 11) (N := some 43) #[true, true, true, true, true, true, true, true, true, true, true, true, true, false, false, false] rfl rfl (one_of HT_.out (by kernel_rfl)) (by decide) (fun K hK => ?_)
   refine goes_ Tryd.func21 (by kernel_rfl) rfl #[.slice aD al.length aE, .int .i64 aF, .slice cQ b8.length cR] (by rfl) rfl rfl (by (try simp only [List.map_toArray, List.map_cons, List.map_nil]); first | done | rfl | (simp only [List.length_drop, List.length_take]; rfl)) ?_
   with_reducible refine (slices_Insert_string_string.calls (fun k_ => some k_ = (.slice aD al.length aE : Value).ownBlock) (.slice aD al.length aE) al aF _ _ b8 a_ w _ ?side1 ?side2 ?side3 ?side4 A36.out).mono ?_
   (case side1 => repeat (first | (with_reducible first | exact HB.out | apply pA | apply pN | apply pD | refine eU ?_ (by assumption)) | exact HB.out))
   (case side2 => exact Kd.R_tight rfl ai.out)
   (case side3 => exact Kd.C_kept_own (aL.out) (fun k_ hk_ hs_ => (hk_.2) hs_))
   (case side4 => exact (Kd.R_reads' aL.out).2.1)
   rintro e w65 ⟨dt, rfl, ho0, hb, hkp⟩
   refine ⟨_, rfl, ?_⟩
   have n0_ := am (Kd.V_mono (ok' := fun k_ => ((P0_0_ k_ ∨ P0_1_ k_) ∨ w.heap.size ≤ k_) ∧ some k_ ≠ (b0 : Value).ownBlock ∧ some k_ ≠ (bb : Value).ownBlock ∧ some k_ ≠ (.slice cQ b8.length cR : Value).ownBlock ∧ k_ ≠ ax ∧ k_ ≠ aj ∧ k_ ≠ an ∧ k_ ≠ af ∧ some k_ ≠ (dt : Value).ownBlock) (Kd.V_keptB (aa.out) hkp (fun k_ hk_ hs_ => (hk_.2.1) hs_)) (fun k_ hk_ => ⟨hk_.1.1, hk_.1.2.2.1, hk_.1.2.2.2.1, hk_.1.2.2.2.2.1, hk_.1.2.2.2.2.2.1, hk_.1.2.2.2.2.2.2.1, hk_.1.2.2.2.2.2.2.2.1, hk_.1.2.2.2.2.2.2.2.2, fun e_ => Or.elim (ho0.1 k_ e_.symm) (fun hs_ => hk_.2.1 hs_) (fun hn_ => Nat.not_le.2 hk_.2.2 hn_)⟩))
   have n1_ := am (Kd.V_mono (ok' := fun k_ => ((P0_0_ k_ ∨ P0_1_ k_) ∨ w.heap.size ≤ k_) ∧ some k_ ≠ (b0 : Value).ownBlock ∧ some k_ ≠ (bb : Value).ownBlock ∧ some k_ ≠ (.slice cQ b8.length cR : Value).ownBlock ∧ k_ ≠ ax ∧ k_ ≠ aj ∧ k_ ≠ an ∧ k_ ≠ af ∧ some k_ ≠ (dt : Value).ownBlock) (Kd.V_keptB (ab.out) hkp (fun k_ hk_ hs_ => (hk_.2.1) hs_)) (fun k_ hk_ => ⟨hk_.1.1, hk_.1.2.2.1, hk_.1.2.2.2.1, hk_.1.2.2.2.2.1, hk_.1.2.2.2.2.2.1, hk_.1.2.2.2.2.2.2.1, hk_.1.2.2.2.2.2.2.2.1, hk_.1.2.2.2.2.2.2.2.2, fun e_ => Or.elim (ho0.1 k_ e_.symm) (fun hs_ => hk_.2.1 hs_) (fun hn_ => Nat.not_le.2 hk_.2.2 hn_)⟩))
   have n2_ := am (blk_kept (bT ac.out) hkp (fun hs_ => (fun e_ => (Kd.R_ne ai.out ac.out (by decide)) e_) hs_))
   have n3_ := am (blk_kept (bT ad.out) hkp (fun hs_ => (fun e_ => (Kd.R_ne ai.out ad.out (by decide)) e_) hs_))
   have n4_ := am (blk_kept (bT ag.out) hkp (fun hs_ => (fun e_ => (Kd.R_ne ai.out ag.out (by decide)) e_) hs_))
   have n5_ := am (blk_kept (bT ae.out) hkp (fun hs_ => (fun e_ => (Kd.R_ne ai.out ae.out (by decide)) e_) hs_))
   have n6_ := am (Kd.R_mono (ok' := fun k_ => (w.heap.size ≤ k_) ∧ some k_ ≠ (bb : Value).ownBlock ∧ k_ ≠ aj) (Kd.R_keptB ((Kd.R_apart' aA.out (Kd.R_typed ai.out) (by decide))) hkp (fun k_ hk_ hs_ => (hk_.2) hs_)) (fun k_ hk_ => ⟨hk_.1.1.1, hk_.1.1.2.1, hk_.1.1.2.2⟩))
   have n7_ := am (Kd.R_mono (ok' := fun k_ => (w.heap.size ≤ k_) ∧ some k_ ≠ (b0 : Value).ownBlock ∧ k_ ≠ aj) (Kd.R_keptB ((Kd.R_apart' bc.out (Kd.R_typed ai.out) (by decide))) hkp (fun k_ hk_ hs_ => (hk_.2) hs_)) (fun k_ hk_ => ⟨hk_.1.1.1, hk_.1.1.2.1, hk_.1.1.2.2⟩))
   have n8_ := am (Kd.R_mono (ok' := fun k_ => (w.heap.size ≤ k_) ∧ some k_ ≠ (dt : Value).ownBlock) (Kd.R_keptB (aL.out) hkp (fun k_ hk_ hs_ => (hk_.2) hs_)) (fun k_ hk_ => ⟨hk_.1.1, fun e_ => Or.elim (ho0.1 k_ e_.symm) (fun hs_ => hk_.2.1 hs_) (fun hn_ => Nat.not_le.2 hk_.2.2 hn_)⟩))
   have n9_ := am (Kd.R_mono (ok' := fun k_ => (w.heap.size ≤ k_) ∧ some k_ ≠ (.slice cQ b8.length cR : Value).ownBlock) ho0 (fun k_ hk_ => ⟨Or.elim hk_ (fun hs_ => (ai.out.1 k_ (hs_).symm).1) (fun hn_ => (Nat.le_trans (below_size (eT HB.out)) hn_)), Or.elim hk_ (fun hs_ => fun e_ => (((aL.out).1 k_ e_.symm).2) hs_) (fun hn_ => (Kd.fresh' (Kd.R_lt (rT aL.out)) k_ hn_))⟩))
   have n10_ := am (hb)
   clear aa ab ac ad ag ae aA bc aL HB ai
   have aa := n0_
   have ab := n1_
   have ac := n2_
   have ad := n3_
   have ag := n4_
   have ae := n5_
   have aA := n6_
   have bc := n7_
   have aL := n8_
   have df := n9_
   have HB := n10_
   clear n0_ n1_ n2_ n3_ n4_ n5_ n6_ n7_ n8_ n9_ n10_
   (try clear hb)
   (try clear hkp)
   (try clear ho0)
   obtain ⟨ce, cf, dX⟩ := Kd.R_slice bc.out
   (first | subst dX | (injection dX with f1_ f2_ f3_; have f4_ := f1_.symm; have f5_ := f3_.symm; clear f1_ f2_ f3_; subst f4_; subst f5_))
   obtain ⟨cp, cq, dY⟩ := Kd.R_slice df.out
   (first | subst dY | (injection dY with f1_ f2_ f3_; have f4_ := f1_.symm; have f5_ := f3_.symm; clear f1_ f2_ f3_; subst f4_; subst f5_))
   refine hK.out _ _ ⟨(blk_cell ae.out 0).trans rfl, (blk_cell ae.out 1).trans rfl, (blk_cell ad.out 0).trans rfl, (blk_cell ad.out 1).trans rfl⟩ (fun hHeld => ?_)
   clear hK K
   refine norm_ (a' := ?_) ?_ ?_
   rotate_left
   ·show Act.put _ (some 43) _ = _
    simp only [pS]
    rfl
   refine last_ (i := 13) (N := none) #[true, true, true, true, true, true, true, true, true, true, true, true, true, true, false, false] rfl rfl (one_of HT_.out (by kernel_rfl)) (by decide) (fun K hK => ?_)
   have gM : w65.cell? ⟨af, 0, none⟩ = some (.slice aJ ay.length aK) := (blk_cell ae.out 0).trans rfl
   have gk := blk_frozen ae.out 0
   have er := aM.out
   have es := aN.out
   have et := aG.out
   have eu := bm.out
   have ev := bo.out
   have ew := bp.out
   refine skip_ (w1 := ?_) (by rfl) rfl ?_ ?_
   rotate_left
   ·go_simp
    rfl
   refine hK.out _ _ ?_
   clear hK K
   refine pure_ (i := 14) (N := some 45) (v := ?_) (a' := ?_) #[true, true, true, true, true, true, true, true, true, true, true, true, true, true, true, false] rfl rfl (any_of HT_.out (by kernel_rfl)) (fun _ _ _ h => h) (Or.inl ⟨by rfl, ?_⟩) ?_ ?_
   rotate_left
   ·intro w'
    go_simp
    with_reducible rfl
   rotate_left
   ·simp only [pS]
    rfl
   refine last_ (i := 15) (N := none) #[true, true, true, true, true, true, true, true, true, true, true, true, true, true, true, true] rfl rfl (one_of HT_.out (by kernel_rfl)) (by decide) (fun K hK => ?_)
   have gN : w65.cell? ⟨af, 1, none⟩ = some (.slice aD al.length aE) := (blk_cell ae.out 1).trans rfl
   have gl := blk_frozen ae.out 1
   have ex := aM.out
   have ey := aN.out
   have ez := aG.out
   have eA := bm.out
   have eB := bo.out
   have eC := bp.out
   refine skip_ (w1 := ?_) (by rfl) rfl ?_ ?_
   rotate_left
   ·go_simp
    rfl
   refine hK.out _ _ ?_
   clear hK K
   refine done_ (done_of HT_.out (by kernel_rfl)) ?_
   have eD : w65.cell? ⟨af, 0, none⟩ = some (.slice aJ ay.length aK) := (blk_cell ae.out 0).trans rfl
   have eE : w65.cell? ⟨af, 1, none⟩ = some (.slice aD al.length aE) := (blk_cell ae.out 1).trans rfl
   have eF := blk_frozen ae.out 0
   have eG := blk_frozen ae.out 1
   have eH : w65.cell? ⟨an, 0, none⟩ = some (.slice none 0 0) := (blk_cell ag.out 0).trans rfl
   have eI : w65.cell? ⟨an, 1, none⟩ = some (.slice none 0 0) := (blk_cell ag.out 1).trans rfl
   have eJ := blk_frozen ag.out 0
   have eK := blk_frozen ag.out 1
   try go_wp2
   refine bodyPost_ret (results_ct rfl _ _ an 25 #[.slice ce aY.length cf, .slice cp a_.length cq] (0, 0) _ rfl (by (with_reducible repeat (first | apply bn | apply bd | apply ba)); refine blk_put (cs := #[.slice ce aY.length cf, .slice none 0 0]) ?_ 1 _ rfl; (with_reducible repeat (first | apply bn | apply bd | apply ba)); refine blk_put (cs := #[.slice none 0 0, .slice none 0 0]) ?_ 0 _ rfl; (with_reducible repeat (first | apply bn | apply bd | apply ba)); refine blk_far ?_ aG.out _; (with_reducible repeat (first | apply bn | apply bd | apply ba)); refine blk_far ?_ aG.out _; exact bT ag.out) Tryd.underlying25 rfl (by kernel_rfl)) rfl ?_
   exact ⟨_, _, by first | rfl | (simp [errW_none, errW_some] <;> rfl) | (simp [*, errW_none, errW_some] <;> rfl), Kd.V_mono (Kd.R_V (by (with_reducible repeat (first | apply Kd.R_alloc | apply Kd.R_drewN | apply Kd.R_drew)); exact Kd.R_mono (Kd.R_far (p := ⟨an, 1, none⟩) (Kd.R_far (p := ⟨an, 0, none⟩) (Kd.R_far (p := ⟨af, 1, none⟩) (Kd.R_far (p := ⟨af, 0, none⟩) (Kd.R_types (Kd.R_types bc.out ae.out (by decide)) ag.out (by decide)) (fun _ hk => hk.1.2) (.slice ce aY.length cf)) (fun _ hk => hk.1.2) (.slice cp a_.length cq)) (fun _ hk => hk.2) (.slice ce aY.length cf)) (fun _ hk => hk.2) (.slice cp a_.length cq)) (fun _ hk => hk.1.1.1))) (fun k_ hk => by first | exact ⟨(.inr (hk.1)), hk.2⟩ | exact (.inr (hk))), Kd.V_mono (Kd.R_V (by (with_reducible repeat (first | apply Kd.R_alloc | apply Kd.R_drewN | apply Kd.R_drew)); exact Kd.R_mono (Kd.R_far (p := ⟨an, 1, none⟩) (Kd.R_far (p := ⟨an, 0, none⟩) (Kd.R_far (p := ⟨af, 1, none⟩) (Kd.R_far (p := ⟨af, 0, none⟩) (Kd.R_types (Kd.R_types df.out ae.out (by decide)) ag.out (by decide)) (fun _ hk => hk.1.2) (.slice ce aY.length cf)) (fun _ hk => hk.1.2) (.slice cp a_.length cq)) (fun _ hk => hk.2) (.slice ce aY.length cf)) (fun _ hk => hk.2) (.slice cp a_.length cq)) (fun _ hk => hk.1.1.1))) (fun k_ hk => by first | exact ⟨(.inr (hk.1)), hk.2⟩ | exact (.inr (hk))), by repeat (first | (with_reducible first | exact HB.out | apply pA | apply pN | apply pD | refine eU ?_ (by assumption)) | exact HB.out)⟩
 ·rw [if_neg c5] at H
  have fT : (bS == 0) = false := beq_eq_false_iff_ne.mpr c5
  have fU : (bS != 0) = true := bne_iff_ne.mpr c5
  simp only [Option.some.injEq, Prod.mk.injEq] at H
  obtain ⟨rfl, rfl, rfl⟩ := H
  go_enter Tryd.func9, Tryd.ntmps9
  go_wp2_with (first | ((with_reducible refine gate_dst (N := 3) rfl ?_); refine box_event ?hg (N := 3) ?hd (cs := #[.slice aq l0_0.length ar, .slice au l0_1.length av]) (t := 25) ?hr ?_; (case hd => rfl); (case hg => rfl); (case hr => first | (go_simp; done) | (go_simp; rfl)); intro ax hg w72 hbox hb; replace aa := am (Kd.V_below (Kd.V_elderB (vT aa.out) ax (Nat.le_of_eq hg.symm)) hb); replace ab := am (Kd.V_below (Kd.V_elderB (vT ab.out) ax (Nat.le_of_eq hg.symm)) hb); have ac := am (hbox); have c_ := am ((gT hg HB.out)); have da := am ((gT hg HB.out)); replace HB := am (sT HB.out hb); clear hb hbox hg) | ((with_reducible refine gate_dst (N := 4) rfl ?_); refine box_event ?hg (N := 4) ?hd (cs := #[.string a1_0, .string a1_1]) (t := 27) ?hr ?_; (case hd => rfl); (case hg => rfl); (case hr => first | (go_simp; done) | (go_simp; rfl)); intro aj hg w73 hbox hb; replace aa := am (Kd.V_below (Kd.V_elderB (vT aa.out) aj (Nat.le_of_eq hg.symm)) hb); replace ab := am (Kd.V_below (Kd.V_elderB (vT ab.out) aj (Nat.le_of_eq hg.symm)) hb); have ad := am (hbox); have db := am ((gT hg HB.out)); have dc := am ((gT hg HB.out)); have bg := am ((nT ac.out hg)); have bh := am ((mT ac.out hg)); replace ac := am (bB ac.out hb); replace HB := am (sT HB.out hb); clear hb hbox hg) | ((with_reducible refine gate_dst (N := 6) rfl ?_); refine box_event ?hg (N := 6) ?hd (cs := #[.slice none 0 0, .slice none 0 0]) (t := 25) ?hr ?_; (case hd => rfl); (case hg => rfl); (case hr => first | (go_simp; done) | (go_simp; rfl)); intro an hg w74 hbox hb; replace aa := am (Kd.V_below (Kd.V_elderB (vT aa.out) an (Nat.le_of_eq hg.symm)) hb); replace ab := am (Kd.V_below (Kd.V_elderB (vT ab.out) an (Nat.le_of_eq hg.symm)) hb); have ag := am (hbox); have dd := am ((gT hg HB.out)); have de := am ((gT hg HB.out)); have bi := am ((nT ac.out hg)); have bj := am ((mT ac.out hg)); have bk := am ((nT ad.out hg)); have bl := am ((mT ad.out hg)); replace ac := am (bB ac.out hb); replace ad := am (bB ad.out hb); replace HB := am (sT HB.out hb); clear hb hbox hg; have gm := bg.out; have gn := bh.out; have go := bi.out; have gp := bj.out; have eL : w74.cell? ⟨ax, 0, none⟩ = some (.slice aq l0_0.length ar) := (blk_cell ac.out 0).trans rfl; have eM : w74.cell? ⟨ax, 1, none⟩ = some (.slice au l0_1.length av) := (blk_cell ac.out 1).trans rfl; have eN := blk_frozen ac.out 0; have eO := blk_frozen ac.out 1; have gq := bk.out; have gr := bl.out; have eP : w74.cell? ⟨aj, 0, none⟩ = some (.string a1_0) := (blk_cell ad.out 0).trans rfl; have eQ : w74.cell? ⟨aj, 1, none⟩ = some (.string a1_1) := (blk_cell ad.out 1).trans rfl; have eR := blk_frozen ad.out 0; have eS := blk_frozen ad.out 1) | ((with_reducible refine gate_callee (f := 18) rfl ?_); refine goesL_ (some 15) rfl rfl Tryd.func18 (by kernel_rfl) rfl #[.agg #[.slice aq l0_0.length ar, .slice au l0_1.length av], .agg #[.string a1_0, .string a1_1]] rfl (by (try simp only [List.map_toArray, List.map_cons, List.map_nil]); first | done | rfl | (simp only [List.length_drop, List.length_take]; rfl)) ?_; (with_reducible refine (store_find.calls k _ _ l0_0 _ _ l0_1 a1_0 a1_1 aF cv bS _ ?side1 ?side2 ?side3 ?side4 A4.out).mono ?_); (case side1 => repeat (first | exact (Kd.V_reads' aa.out).2.2 | (with_reducible refine Kd.C_alloc ?_ _) | (with_reducible refine Kd.C_drewN ?_ _) | (with_reducible refine Kd.C_drew ?_))); (case side2 => exact (Kd.V_reads' aa.out).2.1); (case side3 => repeat (first | exact (Kd.V_reads' ab.out).2.2 | (with_reducible refine Kd.C_alloc ?_ _) | (with_reducible refine Kd.C_drewN ?_ _) | (with_reducible refine Kd.C_drew ?_))); (case side4 => exact (Kd.V_reads' ab.out).2.1); rintro e w80 ⟨rfl, hb⟩; refine ⟨_, rfl, ?_⟩; replace aa := am (vB aa.out hb); replace ab := am (vB ab.out hb); replace ac := am (bB ac.out hb); replace ad := am (bB ad.out hb); replace ag := am (bB ag.out hb); replace HB := am (sT HB.out hb); (try clear hb); (try clear hb2); (try clear hk); (try clear hi); have eV : w80.cell? ⟨ax, 0, none⟩ = some (.slice aq l0_0.length ar) := (blk_cell ac.out 0).trans rfl; have eW : w80.cell? ⟨ax, 1, none⟩ = some (.slice au l0_1.length av) := (blk_cell ac.out 1).trans rfl; have eX := blk_frozen ac.out 0; have eY := blk_frozen ac.out 1; have eZ : w80.cell? ⟨an, 0, none⟩ = some (.slice none 0 0) := (blk_cell ag.out 0).trans rfl; have e0 : w80.cell? ⟨an, 1, none⟩ = some (.slice none 0 0) := (blk_cell ag.out 1).trans rfl; have e1 := blk_frozen ag.out 0; have e2 := blk_frozen ag.out 1))
  refine bodyPost_ret (results_ct rfl _ _ an 25 #[.slice aq l0_0.length ar, .slice au l0_1.length av] (0, 0) _ rfl (by (with_reducible repeat (first | apply bn | apply bd | apply ba)); refine blk_put (cs := #[.slice aq l0_0.length ar, .slice none 0 0]) ?_ 1 _ rfl; (with_reducible repeat (first | apply bn | apply bd | apply ba)); refine blk_put (cs := #[.slice none 0 0, .slice none 0 0]) ?_ 0 _ rfl; exact bT ag.out) Tryd.underlying25 rfl (by kernel_rfl)) rfl ?_
  exact ⟨_, _, by first | rfl | (simp [errW_none, errW_some] <;> rfl) | (simp [*, errW_none, errW_some] <;> rfl), by (with_reducible repeat (first | apply Kd.V_alloc | apply Kd.V_drewN | apply Kd.V_drew)); exact Kd.V_mono (Kd.V_far (p := ⟨an, 1, none⟩) (Kd.V_far (p := ⟨an, 0, none⟩) (Kd.V_mono aa.out (fun k_ hk => (⟨hk, hk.2⟩ : _ ∧ k_ ≠ an))) (fun _ hk => hk.2) (.slice aq l0_0.length ar)) (fun _ hk => hk.2) (.slice au l0_1.length av)) (fun _ hk => hk.1.1.1.1), by (with_reducible repeat (first | apply Kd.V_alloc | apply Kd.V_drewN | apply Kd.V_drew)); exact Kd.V_mono (Kd.V_far (p := ⟨an, 1, none⟩) (Kd.V_far (p := ⟨an, 0, none⟩) (Kd.V_mono ab.out (fun k_ hk => (⟨hk, hk.2⟩ : _ ∧ k_ ≠ an))) (fun _ hk => hk.2) (.slice aq l0_0.length ar)) (fun _ hk => hk.2) (.slice au l0_1.length av)) (fun _ hk => hk.1.1.1.1), by repeat (first | (with_reducible first | exact HB.out | apply pA | apply pN | apply pD | refine eU ?_ (by assumption)) | exact HB.out)⟩

/-! ### store_Get: function 11 -/
def store_Get.f (k : Nat) (l0_0 : List (S27)) (l0_1 : List ByteArray) (a1_0 : ByteArray) (a1_1 : ByteArray) : Option (ByteArray × Int) := (store_find.f k l0_0 l0_1 a1_0 a1_1).bind fun bt289 => (if bt289.2.2 = 0 then (if bt289.2.1 = true then (if 0 ≤ bt289.1 then (if bt289.1 < (l0_1.length : Int) then (some (rdOf ByteArray.empty l0_1 bt289.1, 0)) else (none)) else (none)) else (some ((⟨#[]⟩ : ByteArray), 2))) else (some ((⟨#[]⟩ : ByteArray), bt289.2.2)))
theorem store_Get.mono : ∀ a0 a1 a2 a3 k, LeO (store_Get.f k a0 a1 a2 a3) (store_Get.f (k + 1) a0 a1 a2 a3) := by
 intro a0 a1 a2 a3 k
 unfold store_Get.f
 repeat' first
   | (with_reducible exact store_find.mono _ _ _ _ _)
   | (with_reducible exact LeO.refl _)
   | (with_reducible exact LeO.none _)
   | (with_reducible refine LeO.ite ?_ ?_)
   | (with_reducible refine LeO.bind ?_ (fun _ => ?_))
   | exact store_find.mono _ _ _ _ _
   | exact LeO.none _
   | refine LeO.ite ?_ ?_
   | refine LeO.bind ?_ (fun _ => ?_)
set_option maxHeartbeats 8000000 in
set_option maxRecDepth 100000 in
theorem store_Get.calls (k : Nat) (aq : Option Addr) (ar : Nat) (l0_0 : List (S27)) (au : Option Addr) (av : Nat) (l0_1 : List ByteArray) (a1_0 : ByteArray) (a1_1 : ByteArray) (r1 : ByteArray) (r2 : Int) (w : World) (hr0_0 : Kd.C k27 w aq l0_0.length l0_0) (hc0_0 : l0_0.length ≤ ar) (hr0_1 : Kd.C Kd.string w au l0_1.length l0_1) (hc0_1 : l0_1.length ≤ av) (h : store_Get.f k l0_0 l0_1 a1_0 a1_1 = some (r1, r2)) :
  Calls Tryd.prog 11 #[.agg #[.slice aq l0_0.length ar, .slice au l0_1.length av], .agg #[.string a1_0, .string a1_1]] w fun e w' => e = .returned (.tuple #[.string r1, .int .i64 r2]) ∧ Below w.heap.size w w' := by
 have hu25 := Tryd.underlying25
 have hu27 := Tryd.underlying27
 have b2 := Aside0.mk hr0_0
 have b3 := Aside0.mk hc0_0
 clear hr0_0 hc0_0
 have bX := Aside0.mk hr0_1
 have b4 := Aside0.mk hc0_1
 clear hr0_1 hc0_1
 have HB := am (Below.refl w.heap.size w)
 have H : ((store_find.f k l0_0 l0_1 a1_0 a1_1).bind fun bt289 => (if bt289.2.2 = 0 then (if bt289.2.1 = true then (if 0 ≤ bt289.1 then (if bt289.1 < (l0_1.length : Int) then (some (rdOf ByteArray.empty l0_1 bt289.1, 0)) else (none)) else (none)) else (some ((⟨#[]⟩ : ByteArray), 2))) else (some ((⟨#[]⟩ : ByteArray), bt289.2.2)))) = some (r1, r2) := h
 clear h
 replace H := Option.bind_eq_some_iff.mp H
 obtain ⟨⟨bI, du, bV⟩, A30, H⟩ := H
 replace H : (if bV = 0 then (if du = true then (if 0 ≤ bI then (if bI < (l0_1.length : Int) then (some (rdOf ByteArray.empty l0_1 bI, 0)) else (none)) else (none)) else (some ((⟨#[]⟩ : ByteArray), 2))) else (some ((⟨#[]⟩ : ByteArray), bV))) = some (r1, r2) := H
 have A3 := Aside0.mk A30
 clear A30
 by_cases c4 : bV = 0
 ·rw [if_pos c4] at H
  have dv : (bV == 0) = true := beq_iff_eq.mpr c4
  have dw : (bV != 0) = false := bne_eq_false_iff_eq.mpr c4
  clear c4
  by_cases c5 : du = true
  ·subst c5
   have H1 : (if 0 ≤ bI then (if bI < (l0_1.length : Int) then (some (rdOf ByteArray.empty l0_1 bI, 0)) else (none)) else (none)) = some (r1, r2) := by rw [if_pos rfl] at H; exact H
   clear H
   have H := H1
   clear H1
   by_cases c6 : 0 ≤ bI
   ·rw [if_pos c6] at H
    have gO : decide (0 ≤ bI) = true := decide_eq_true c6
    clear c6
    by_cases c7 : bI < (l0_1.length : Int)
    ·rw [if_pos c7] at H
     have gP : decide (bI < (l0_1.length : Int)) = true := decide_eq_true c7
     clear c7
     simp only [Option.some.injEq, Prod.mk.injEq] at H
     obtain ⟨rfl, rfl⟩ := H
     go_enter Tryd.func11, Tryd.ntmps11
     go_wp2_with (first | ((with_reducible refine gate_dst (N := 2) rfl ?_); refine box_event ?hg (N := 2) ?hd (cs := #[.slice aq l0_0.length ar, .slice au l0_1.length av]) (t := 25) ?hr ?_; (case hd => rfl); (case hg => rfl); (case hr => first | (go_simp; done) | (go_simp; rfl)); intro bJ hg w8 hbox hb; have aC := am (hbox); have dg := am ((gT hg HB.out)); have dh := am ((gT hg HB.out)); replace HB := am (sT HB.out hb); clear hb hbox hg) | ((with_reducible refine gate_dst (N := 3) rfl ?_); refine box_event ?hg (N := 3) ?hd (cs := #[.string a1_0, .string a1_1]) (t := 27) ?hr ?_; (case hd => rfl); (case hg => rfl); (case hr => first | (go_simp; done) | (go_simp; rfl)); intro bN hg w9 hbox hb; have aR := am (hbox); have di := am ((gT hg HB.out)); have dj := am ((gT hg HB.out)); have bq := am ((nT aC.out hg)); have br := am ((mT aC.out hg)); replace aC := am (bB aC.out hb); replace HB := am (sT HB.out hb); clear hb hbox hg; have gs := bq.out; have gt := br.out; have e3 : w9.cell? ⟨bJ, 0, none⟩ = some (.slice aq l0_0.length ar) := (blk_cell aC.out 0).trans rfl; have e4 : w9.cell? ⟨bJ, 1, none⟩ = some (.slice au l0_1.length av) := (blk_cell aC.out 1).trans rfl; have e5 := blk_frozen aC.out 0; have e6 := blk_frozen aC.out 1; have e7 : w9.cell? ⟨bN, 0, none⟩ = some (.string a1_0) := (blk_cell aR.out 0).trans rfl; have e8 : w9.cell? ⟨bN, 1, none⟩ = some (.string a1_1) := (blk_cell aR.out 1).trans rfl; have e9 := blk_frozen aR.out 0; have fa := blk_frozen aR.out 1) | ((with_reducible refine gate_callee (f := 18) rfl ?_); refine goesL_ (some 12) rfl rfl Tryd.func18 (by kernel_rfl) rfl #[.agg #[.slice aq l0_0.length ar, .slice au l0_1.length av], .agg #[.string a1_0, .string a1_1]] rfl (by (try simp only [List.map_toArray, List.map_cons, List.map_nil]); first | done | rfl | (simp only [List.length_drop, List.length_take]; rfl)) ?_; (with_reducible refine (store_find.calls k _ _ l0_0 _ _ l0_1 a1_0 a1_1 bI true bV _ ?side1 ?side2 ?side3 ?side4 A3.out).mono ?_); (case side1 => repeat (first | exact (Kd.C_below b2.out HB.out) | (with_reducible refine Kd.C_alloc ?_ _) | (with_reducible refine Kd.C_drewN ?_ _) | (with_reducible refine Kd.C_drew ?_))); (case side2 => exact b3.out); (case side3 => repeat (first | exact (Kd.C_below bX.out HB.out) | (with_reducible refine Kd.C_alloc ?_ _) | (with_reducible refine Kd.C_drewN ?_ _) | (with_reducible refine Kd.C_drew ?_))); (case side4 => exact b4.out); rintro e w13 ⟨rfl, hb⟩; refine ⟨_, rfl, ?_⟩; replace aC := am (bB aC.out hb); replace aR := am (bB aR.out hb); replace HB := am (sT HB.out hb); (try clear hb); (try clear hb2); (try clear hk); (try clear hi); have cS : w13.cell? ⟨bJ, 0, none⟩ = some (.slice aq l0_0.length ar) := (blk_cell aC.out 0).trans rfl; have cT : w13.cell? ⟨bJ, 1, none⟩ = some (.slice au l0_1.length av) := (blk_cell aC.out 1).trans rfl; have cU := blk_frozen aC.out 0; have cV := blk_frozen aC.out 1; have p292 : 0 ≤ (bI : Int) := of_decide_eq_true (by first | (with_reducible assumption) | assumption); have q292 : bI < (l0_1.length : Int) := of_decide_eq_true (by first | (with_reducible assumption) | assumption); obtain ⟨ad292, e292, b1⟩ := Kd.at_string bX.out bI p292 q292; cases e292; replace b1 := (HB.out.cell (World.block_lt_of_cell? w _ b1)).trans b1; replace p292 := eq_true p292; replace q292 := eq_true q292))
     go_ret2
     exact ⟨by first | rfl | (simp [errW_none, errW_some] <;> rfl) | (simp [*, errW_none, errW_some] <;> rfl), eT HB.out⟩
    ·rw [if_neg c7] at H
     exact absurd H (by simp)
   ·rw [if_neg c6] at H
    exact absurd H (by simp)
  ·replace c5 := Bool.eq_false_iff.mpr c5
   subst c5
   have H1 : (some ((⟨#[]⟩ : ByteArray), 2)) = some (r1, r2) := by rw [if_neg (show ¬ (false = true) by decide)] at H; exact H
   clear H
   have H := H1
   clear H1
   simp only [Option.some.injEq, Prod.mk.injEq] at H
   obtain ⟨rfl, rfl⟩ := H
   go_enter Tryd.func11, Tryd.ntmps11
   go_wp2_with (first | ((with_reducible refine gate_dst (N := 2) rfl ?_); refine box_event ?hg (N := 2) ?hd (cs := #[.slice aq l0_0.length ar, .slice au l0_1.length av]) (t := 25) ?hr ?_; (case hd => rfl); (case hg => rfl); (case hr => first | (go_simp; done) | (go_simp; rfl)); intro bJ hg w15 hbox hb; have aC := am (hbox); have dg := am ((gT hg HB.out)); have dh := am ((gT hg HB.out)); replace HB := am (sT HB.out hb); clear hb hbox hg) | ((with_reducible refine gate_dst (N := 3) rfl ?_); refine box_event ?hg (N := 3) ?hd (cs := #[.string a1_0, .string a1_1]) (t := 27) ?hr ?_; (case hd => rfl); (case hg => rfl); (case hr => first | (go_simp; done) | (go_simp; rfl)); intro bN hg w16 hbox hb; have aR := am (hbox); have di := am ((gT hg HB.out)); have dj := am ((gT hg HB.out)); have bq := am ((nT aC.out hg)); have br := am ((mT aC.out hg)); replace aC := am (bB aC.out hb); replace HB := am (sT HB.out hb); clear hb hbox hg; have dB := bq.out; have dC := br.out; have ca : w16.cell? ⟨bJ, 0, none⟩ = some (.slice aq l0_0.length ar) := (blk_cell aC.out 0).trans rfl; have cb : w16.cell? ⟨bJ, 1, none⟩ = some (.slice au l0_1.length av) := (blk_cell aC.out 1).trans rfl; have cc := blk_frozen aC.out 0; have cd := blk_frozen aC.out 1; have fb : w16.cell? ⟨bN, 0, none⟩ = some (.string a1_0) := (blk_cell aR.out 0).trans rfl; have fc : w16.cell? ⟨bN, 1, none⟩ = some (.string a1_1) := (blk_cell aR.out 1).trans rfl; have fd := blk_frozen aR.out 0; have fe := blk_frozen aR.out 1) | ((with_reducible refine gate_callee (f := 18) rfl ?_); refine goesL_ (some 12) rfl rfl Tryd.func18 (by kernel_rfl) rfl #[.agg #[.slice aq l0_0.length ar, .slice au l0_1.length av], .agg #[.string a1_0, .string a1_1]] rfl (by (try simp only [List.map_toArray, List.map_cons, List.map_nil]); first | done | rfl | (simp only [List.length_drop, List.length_take]; rfl)) ?_; (with_reducible refine (store_find.calls k _ _ l0_0 _ _ l0_1 a1_0 a1_1 bI false bV _ ?side1 ?side2 ?side3 ?side4 A3.out).mono ?_); (case side1 => repeat (first | exact (Kd.C_below b2.out HB.out) | (with_reducible refine Kd.C_alloc ?_ _) | (with_reducible refine Kd.C_drewN ?_ _) | (with_reducible refine Kd.C_drew ?_))); (case side2 => exact b3.out); (case side3 => repeat (first | exact (Kd.C_below bX.out HB.out) | (with_reducible refine Kd.C_alloc ?_ _) | (with_reducible refine Kd.C_drewN ?_ _) | (with_reducible refine Kd.C_drew ?_))); (case side4 => exact b4.out); rintro e w20 ⟨rfl, hb⟩; refine ⟨_, rfl, ?_⟩; replace aC := am (bB aC.out hb); replace aR := am (bB aR.out hb); replace HB := am (sT HB.out hb); (try clear hb); (try clear hb2); (try clear hk); (try clear hi)))
   go_ret2
   exact ⟨by first | rfl | (simp [errW_none, errW_some] <;> rfl) | (simp [*, errW_none, errW_some] <;> rfl), eT HB.out⟩
 ·rw [if_neg c4] at H
  have dv : (bV == 0) = false := beq_eq_false_iff_ne.mpr c4
  have dw : (bV != 0) = true := bne_iff_ne.mpr c4
  simp only [Option.some.injEq, Prod.mk.injEq] at H
  obtain ⟨rfl, rfl⟩ := H
  go_enter Tryd.func11, Tryd.ntmps11
  go_wp2_with (first | ((with_reducible refine gate_dst (N := 2) rfl ?_); refine box_event ?hg (N := 2) ?hd (cs := #[.slice aq l0_0.length ar, .slice au l0_1.length av]) (t := 25) ?hr ?_; (case hd => rfl); (case hg => rfl); (case hr => first | (go_simp; done) | (go_simp; rfl)); intro bJ hg w21 hbox hb; have aC := am (hbox); have dg := am ((gT hg HB.out)); have dh := am ((gT hg HB.out)); replace HB := am (sT HB.out hb); clear hb hbox hg) | ((with_reducible refine gate_dst (N := 3) rfl ?_); refine box_event ?hg (N := 3) ?hd (cs := #[.string a1_0, .string a1_1]) (t := 27) ?hr ?_; (case hd => rfl); (case hg => rfl); (case hr => first | (go_simp; done) | (go_simp; rfl)); intro bN hg w22 hbox hb; have aR := am (hbox); have di := am ((gT hg HB.out)); have dj := am ((gT hg HB.out)); have bq := am ((nT aC.out hg)); have br := am ((mT aC.out hg)); replace aC := am (bB aC.out hb); replace HB := am (sT HB.out hb); clear hb hbox hg; have dZ := bq.out; have d0 := br.out; have ff : w22.cell? ⟨bJ, 0, none⟩ = some (.slice aq l0_0.length ar) := (blk_cell aC.out 0).trans rfl; have fg : w22.cell? ⟨bJ, 1, none⟩ = some (.slice au l0_1.length av) := (blk_cell aC.out 1).trans rfl; have fh := blk_frozen aC.out 0; have fi := blk_frozen aC.out 1; have cW : w22.cell? ⟨bN, 0, none⟩ = some (.string a1_0) := (blk_cell aR.out 0).trans rfl; have cX : w22.cell? ⟨bN, 1, none⟩ = some (.string a1_1) := (blk_cell aR.out 1).trans rfl; have cY := blk_frozen aR.out 0; have cZ := blk_frozen aR.out 1) | ((with_reducible refine gate_callee (f := 18) rfl ?_); refine goesL_ (some 12) rfl rfl Tryd.func18 (by kernel_rfl) rfl #[.agg #[.slice aq l0_0.length ar, .slice au l0_1.length av], .agg #[.string a1_0, .string a1_1]] rfl (by (try simp only [List.map_toArray, List.map_cons, List.map_nil]); first | done | rfl | (simp only [List.length_drop, List.length_take]; rfl)) ?_; (with_reducible refine (store_find.calls k _ _ l0_0 _ _ l0_1 a1_0 a1_1 bI du bV _ ?side1 ?side2 ?side3 ?side4 A3.out).mono ?_); (case side1 => repeat (first | exact (Kd.C_below b2.out HB.out) | (with_reducible refine Kd.C_alloc ?_ _) | (with_reducible refine Kd.C_drewN ?_ _) | (with_reducible refine Kd.C_drew ?_))); (case side2 => exact b3.out); (case side3 => repeat (first | exact (Kd.C_below bX.out HB.out) | (with_reducible refine Kd.C_alloc ?_ _) | (with_reducible refine Kd.C_drewN ?_ _) | (with_reducible refine Kd.C_drew ?_))); (case side4 => exact b4.out); rintro e w26 ⟨rfl, hb⟩; refine ⟨_, rfl, ?_⟩; replace aC := am (bB aC.out hb); replace aR := am (bB aR.out hb); replace HB := am (sT HB.out hb); (try clear hb); (try clear hb2); (try clear hk); (try clear hi)))
  go_ret2
  exact ⟨by first | rfl | (simp [errW_none, errW_some] <;> rfl) | (simp [*, errW_none, errW_some] <;> rfl), eT HB.out⟩

-- HAND: api_Node_22: with the text above

-- HAND: slices_Delete_string_string: with the text above

/-! ### store_Drop: function 12 -/
def store_Drop.f (k : Nat) (l0_0 : List (S27)) (l0_1 : List ByteArray) (a1_0 : ByteArray) (a1_1 : ByteArray) : Option ((List (S27)) × List ByteArray × Int) := (store_find.f k l0_0 l0_1 a1_0 a1_1).bind fun bt296 => (if bt296.2.2 = 0 then (if bt296.2.1 = true then ((store_own.f l0_0 l0_1).bind fun bt299 => ((api_Node_22.f bt299.1 bt296.1 (wrap64 (bt296.1 + 1))).bind fun bE => ((slices_Delete_string_string.f bt299.2 bt296.1 (wrap64 (bt296.1 + 1))).bind fun bF => (some (bE, bF, 0))))) else (some (l0_0, l0_1, 2))) else (some (l0_0, l0_1, bt296.2.2)))
theorem store_Drop.mono : ∀ a0 a1 a2 a3 k, LeO (store_Drop.f k a0 a1 a2 a3) (store_Drop.f (k + 1) a0 a1 a2 a3) := by
 intro a0 a1 a2 a3 k
 unfold store_Drop.f
 repeat' first
   | (with_reducible exact store_find.mono _ _ _ _ _)
   | (with_reducible exact LeO.refl _)
   | (with_reducible exact LeO.none _)
   | (with_reducible refine LeO.ite ?_ ?_)
   | (with_reducible refine LeO.bind ?_ (fun _ => ?_))
   | exact store_find.mono _ _ _ _ _
   | exact LeO.none _
   | refine LeO.ite ?_ ?_
   | refine LeO.bind ?_ (fun _ => ?_)
def store_Drop.T7 : Bool × List (List Nat × List Nat) := (true, [([], []), ([0], [0]), ([], []), ([], []), ([3], [3]), ([1, 2, 4], [1, 2, 4]), ([], []), ([6], [6]), ([], []), ([], []), ([9], [9]), ([7, 8, 10, 5], [7, 8, 10]), ([0, 1, 2, 3, 4, 5, 6, 7], []), ([12, 5, 11, 0, 1, 2, 3, 4, 5, 6, 7], [5, 12]), ([0, 1, 2, 3, 4, 5, 6, 7, 8, 9, 10, 11, 12, 13], []), ([14, 11, 13, 0, 1, 2, 3, 4, 5, 6, 7, 8, 9, 10, 11, 12, 13], [11, 14])])
def store_Drop.B7 : List Nat := [0, 1, 0, 0, 8, 31, 0, 64, 0, 0, 512, 2047, 255, 8191, 16383, 32767]
theorem store_Drop.tab7 : rtab .any (opsOf Tryd.f12 7) = store_Drop.T7 := by kernel_rfl
theorem store_Drop.bits7 : waitsOk store_Drop.T7.2 store_Drop.B7 = true := by kernel_rfl
set_option maxHeartbeats 8000000 in
set_option maxRecDepth 100000 in
theorem store_Drop.calls (k : Nat) (P0_0_ : Nat → Prop) (aq : Option Addr) (ar : Nat) (l0_0 : List (S27)) (P0_1_ : Nat → Prop) (au : Option Addr) (av : Nat) (l0_1 : List ByteArray) (a1_0 : ByteArray) (a1_1 : ByteArray) (r1 : List (S27)) (r2 : List ByteArray) (r3 : Int) (w : World) (ck : Kd.V k27 27 w w.heap.size (fun k_ => P0_0_ k_) (.slice aq l0_0.length ar) l0_0) (cl : Kd.V Kd.string 9 w w.heap.size (fun k_ => P0_1_ k_) (.slice au l0_1.length av) l0_1) (h : store_Drop.f k l0_0 l0_1 a1_0 a1_1 = some (r1, r2, r3)) :
  Calls Tryd.prog 12 #[.agg #[.slice aq l0_0.length ar, .slice au l0_1.length av], .agg #[.string a1_0, .string a1_1]] w fun e w' => ∃ v0_ v1_ : Value, e = .returned (.tuple #[.agg #[v0_, v1_], .int .i64 r3]) ∧ Kd.V k27 27 w' w.heap.size (fun k_ => ((P0_0_ k_ ∨ P0_1_ k_) ∨ w.heap.size ≤ k_)) v0_ r1 ∧ Kd.V Kd.string 9 w' w.heap.size (fun k_ => ((P0_0_ k_ ∨ P0_1_ k_) ∨ w.heap.size ≤ k_)) v1_ r2 ∧ Below w.heap.size w w' := by
 have hu25 := Tryd.underlying25
 have hu27 := Tryd.underlying27
 have aa := am (show Kd.V k27 27 w w.heap.size (fun k_ => ((P0_0_ k_ ∨ P0_1_ k_) ∨ w.heap.size ≤ k_)) (.slice aq l0_0.length ar) l0_0 from Kd.V_mono ck (fun k_ hk => .inl (.inl hk)))
 have ab := am (show Kd.V Kd.string 9 w w.heap.size (fun k_ => ((P0_0_ k_ ∨ P0_1_ k_) ∨ w.heap.size ≤ k_)) (.slice au l0_1.length av) l0_1 from Kd.V_mono cl (fun k_ hk => .inl (.inr hk)))
 have HB := am (Below.refl w.heap.size w)
 have H : ((store_find.f k l0_0 l0_1 a1_0 a1_1).bind fun bt296 => (if bt296.2.2 = 0 then (if bt296.2.1 = true then ((store_own.f l0_0 l0_1).bind fun bt299 => ((api_Node_22.f bt299.1 bt296.1 (wrap64 (bt296.1 + 1))).bind fun bE => ((slices_Delete_string_string.f bt299.2 bt296.1 (wrap64 (bt296.1 + 1))).bind fun bF => (some (bE, bF, 0))))) else (some (l0_0, l0_1, 2))) else (some (l0_0, l0_1, bt296.2.2)))) = some (r1, r2, r3) := h
 clear h
 replace H := Option.bind_eq_some_iff.mp H
 obtain ⟨⟨a6, dx, bW⟩, A30, H⟩ := H
 replace H : (if bW = 0 then (if dx = true then ((store_own.f l0_0 l0_1).bind fun bt299 => ((api_Node_22.f bt299.1 a6 (wrap64 (a6 + 1))).bind fun bE => ((slices_Delete_string_string.f bt299.2 a6 (wrap64 (a6 + 1))).bind fun bF => (some (bE, bF, 0))))) else (some (l0_0, l0_1, 2))) else (some (l0_0, l0_1, bW))) = some (r1, r2, r3) := H
 have A3 := Aside0.mk A30
 clear A30
 by_cases c4 : bW = 0
 ·rw [if_pos c4] at H
  have dv : (bW == 0) = true := beq_iff_eq.mpr c4
  have dw : (bW != 0) = false := bne_eq_false_iff_eq.mpr c4
  clear c4
  by_cases c5 : dx = true
  ·subst c5
   have H1 : ((store_own.f l0_0 l0_1).bind fun bt299 => ((api_Node_22.f bt299.1 a6 (wrap64 (a6 + 1))).bind fun bE => ((slices_Delete_string_string.f bt299.2 a6 (wrap64 (a6 + 1))).bind fun bF => (some (bE, bF, 0))))) = some (r1, r2, r3) := by rw [if_pos rfl] at H; exact H
   clear H
   have H := H1
   clear H1
   replace H := Option.bind_eq_some_iff.mp H
   obtain ⟨⟨aU, aP⟩, A60, H⟩ := H
   replace H : ((api_Node_22.f aU a6 (wrap64 (a6 + 1))).bind fun bE => ((slices_Delete_string_string.f aP a6 (wrap64 (a6 + 1))).bind fun bF => (some (bE, bF, 0)))) = some (r1, r2, r3) := H
   have A6 := Aside0.mk A60
   clear A60
   replace H := Option.bind_eq_some_iff.mp H
   obtain ⟨bE, A70, H⟩ := H
   replace H : ((slices_Delete_string_string.f aP a6 (wrap64 (a6 + 1))).bind fun bF => (some (bE, bF, 0))) = some (r1, r2, r3) := H
   have A7 := Aside0.mk A70
   clear A70
   replace H := Option.bind_eq_some_iff.mp H
   obtain ⟨bF, A80, H⟩ := H
   replace H : (some (bE, bF, 0)) = some (r1, r2, r3) := H
   have A8 := Aside0.mk A80
   clear A80
   simp only [Option.some.injEq, Prod.mk.injEq] at H
   obtain ⟨rfl, rfl, rfl⟩ := H
   go_enter Tryd.func12, Tryd.ntmps12
   try go_wp2_with (first | ((with_reducible refine gate_dst (N := 2) rfl ?_); refine box_event ?hg (N := 2) ?hd (cs := #[.slice aq l0_0.length ar, .slice au l0_1.length av]) (t := 25) ?hr ?_; (case hd => rfl); (case hg => rfl); (case hr => first | (go_simp; done) | (go_simp; rfl)); intro aH hg w9 hbox hb; replace aa := am (Kd.V_below (Kd.V_elderB (vT aa.out) aH (Nat.le_of_eq hg.symm)) hb); replace ab := am (Kd.V_below (Kd.V_elderB (vT ab.out) aH (Nat.le_of_eq hg.symm)) hb); have ah := am (hbox); have dk := am ((gT hg HB.out)); have dl := am ((gT hg HB.out)); replace HB := am (sT HB.out hb); clear hb hbox hg) | ((with_reducible refine gate_dst (N := 3) rfl ?_); refine box_event ?hg (N := 3) ?hd (cs := #[.string a1_0, .string a1_1]) (t := 27) ?hr ?_; (case hd => rfl); (case hg => rfl); (case hr => first | (go_simp; done) | (go_simp; rfl)); intro aI hg w10 hbox hb; replace aa := am (Kd.V_below (Kd.V_elderB (vT aa.out) aI (Nat.le_of_eq hg.symm)) hb); replace ab := am (Kd.V_below (Kd.V_elderB (vT ab.out) aI (Nat.le_of_eq hg.symm)) hb); have ao := am (hbox); have dm := am ((gT hg HB.out)); have dn := am ((gT hg HB.out)); have bs := am ((nT ah.out hg)); have bt := am ((mT ah.out hg)); replace ah := am (bB ah.out hb); replace HB := am (sT HB.out hb); clear hb hbox hg) | ((with_reducible refine gate_dst (N := 4) rfl ?_); refine box_event ?hg (N := 4) ?hd (cs := #[.slice none 0 0, .slice none 0 0]) (t := 25) ?hr ?_; (case hd => rfl); (case hg => rfl); (case hr => first | (go_simp; done) | (go_simp; rfl)); intro az hg w11 hbox hb; replace aa := am (Kd.V_below (Kd.V_elderB (vT aa.out) az (Nat.le_of_eq hg.symm)) hb); replace ab := am (Kd.V_below (Kd.V_elderB (vT ab.out) az (Nat.le_of_eq hg.symm)) hb); have aw := am (hbox); have dp := am ((gT hg HB.out)); have dq := am ((gT hg HB.out)); have bu := am ((nT ah.out hg)); have bv := am ((mT ah.out hg)); have bw := am ((nT ao.out hg)); have bx := am ((mT ao.out hg)); replace ah := am (bB ah.out hb); replace ao := am (bB ao.out hb); replace HB := am (sT HB.out hb); clear hb hbox hg; have gu := bs.out; have gv := bt.out; have gw := bu.out; have gx := bv.out; have cS : w11.cell? ⟨aH, 0, none⟩ = some (.slice aq l0_0.length ar) := (blk_cell ah.out 0).trans rfl; have cT : w11.cell? ⟨aH, 1, none⟩ = some (.slice au l0_1.length av) := (blk_cell ah.out 1).trans rfl; have cU := blk_frozen ah.out 0; have cV := blk_frozen ah.out 1; have dz := bw.out; have dA := bx.out; have cw : w11.cell? ⟨aI, 0, none⟩ = some (.string a1_0) := (blk_cell ao.out 0).trans rfl; have cx : w11.cell? ⟨aI, 1, none⟩ = some (.string a1_1) := (blk_cell ao.out 1).trans rfl; have cy := blk_frozen ao.out 0; have cz := blk_frozen ao.out 1) | ((with_reducible refine gate_callee (f := 18) rfl ?_); refine goesL_ (some 13) rfl rfl Tryd.func18 (by kernel_rfl) rfl #[.agg #[.slice aq l0_0.length ar, .slice au l0_1.length av], .agg #[.string a1_0, .string a1_1]] rfl (by (try simp only [List.map_toArray, List.map_cons, List.map_nil]); first | done | rfl | (simp only [List.length_drop, List.length_take]; rfl)) ?_; (with_reducible refine (store_find.calls k _ _ l0_0 _ _ l0_1 a1_0 a1_1 a6 true bW _ ?side1 ?side2 ?side3 ?side4 A3.out).mono ?_); (case side1 => repeat (first | exact (Kd.V_reads' aa.out).2.2 | (with_reducible refine Kd.C_alloc ?_ _) | (with_reducible refine Kd.C_drewN ?_ _) | (with_reducible refine Kd.C_drew ?_))); (case side2 => exact (Kd.V_reads' aa.out).2.1); (case side3 => repeat (first | exact (Kd.V_reads' ab.out).2.2 | (with_reducible refine Kd.C_alloc ?_ _) | (with_reducible refine Kd.C_drewN ?_ _) | (with_reducible refine Kd.C_drew ?_))); (case side4 => exact (Kd.V_reads' ab.out).2.1); rintro e w17 ⟨rfl, hb⟩; refine ⟨_, rfl, ?_⟩; replace aa := am (vB aa.out hb); replace ab := am (vB ab.out hb); replace ah := am (bB ah.out hb); replace ao := am (bB ao.out hb); replace aw := am (bB aw.out hb); replace HB := am (sT HB.out hb); (try clear hb); (try clear hb2); (try clear hk); (try clear hi); have ca : w17.cell? ⟨aH, 0, none⟩ = some (.slice aq l0_0.length ar) := (blk_cell ah.out 0).trans rfl; have cb : w17.cell? ⟨aH, 1, none⟩ = some (.slice au l0_1.length av) := (blk_cell ah.out 1).trans rfl; have cc := blk_frozen ah.out 0; have cd := blk_frozen ah.out 1) | ((with_reducible refine gate_callee (f := 19) rfl ?_); refine goesL_ (some 27) rfl rfl Tryd.func19 (by kernel_rfl) rfl #[.agg #[.slice aq l0_0.length ar, .slice au l0_1.length av]] rfl (by (try simp only [List.map_toArray, List.map_cons, List.map_nil]); first | done | rfl | (simp only [List.length_drop, List.length_take]; rfl)) ?_; (with_reducible refine (store_own.calls _ _ l0_0 _ _ l0_1 aU aP _ ?side1 ?side2 ?side3 ?side4 A6.out).mono ?_); (case side1 => repeat (first | exact (Kd.V_reads' aa.out).2.2 | (with_reducible refine Kd.C_alloc ?_ _) | (with_reducible refine Kd.C_drewN ?_ _) | (with_reducible refine Kd.C_drew ?_))); (case side2 => exact (Kd.V_reads' aa.out).2.1); (case side3 => repeat (first | exact (Kd.V_reads' ab.out).2.2 | (with_reducible refine Kd.C_alloc ?_ _) | (with_reducible refine Kd.C_drewN ?_ _) | (with_reducible refine Kd.C_drew ?_))); (case side4 => exact (Kd.V_reads' ab.out).2.1); rintro e w19 ⟨gQ, gR, rfl, ho0, ho1, hb⟩; refine ⟨_, rfl, ?_⟩; replace aa := am (Kd.V_mono (Kd.V_told (Kd.V_told (Kd.V_old (vT aa.out) hb) (Kd.R_base ho0)) (Kd.R_base ho1)) (fun _ h_ => h_.1)); replace ab := am (Kd.V_mono (Kd.V_told (Kd.V_told (Kd.V_old (vT ab.out) hb) (Kd.R_base ho0)) (Kd.R_base ho1)) (fun _ h_ => h_.1)); have aV := am (Kd.R_lower (Kd.R_newB (Kd.R_newM (M := fun k_ => (w.heap.size ≤ k_)) ho0 (below_size (eT HB.out)) (fun k_ h_ => h_)) (g := aI) (o := .cells #[.string a1_0, .string a1_1] 27 (0, 0)) (bT ao.out)) (below_size (eT HB.out))); have aO := am (Kd.R_lower (Kd.R_newM (M := fun k_ => (w.heap.size ≤ k_)) ho1 (below_size (eT HB.out)) (fun k_ h_ => h_)) (below_size (eT HB.out))); replace ah := am (bB ah.out hb); replace aw := am (bB aw.out hb); replace ao := am (bB ao.out hb); replace HB := am (sT HB.out hb); (try clear hb); (try clear hb2); (try clear hk); (try clear hi); (try clear ho0); (try clear ho1)) | ((with_reducible refine gate_dst (N := 9) rfl ?_); refine box_event ?hg (N := 9) ?hd (cs := #[.slice none 0 0, .slice none 0 0]) (t := 25) ?hr ?_; (case hd => rfl); (case hg => rfl); (case hr => first | (go_simp; done) | (go_simp; rfl)); intro ap hg w20 hbox hb; replace aa := am (Kd.V_below (Kd.V_elderB (vT aa.out) ap (Nat.le_of_eq hg.symm)) hb); replace ab := am (Kd.V_below (Kd.V_elderB (vT ab.out) ap (Nat.le_of_eq hg.symm)) hb); replace aV := am (rB aV.out hb); replace aO := am (rB aO.out hb); have aB := am (hbox); have gy := am ((gT hg HB.out)); have gz := am ((gT hg HB.out)); have bz := am ((nT ah.out hg)); have bK := am ((mT ah.out hg)); have bA := am ((nT ao.out hg)); have bL := am ((mT ao.out hg)); have aW := am ((nT aw.out hg)); have bM := am ((mT aw.out hg)); replace ah := am (bB ah.out hb); replace ao := am (bB ao.out hb); replace aw := am (bB aw.out hb); replace HB := am (sT HB.out hb); clear hb hbox hg; obtain ⟨a7, a8, f3⟩ := Kd.R_slice aV.out; subst f3; have gA := bK.out; have gB := bz.out; have dZ := bL.out; have d0 := bA.out; have dF := bM.out; have dG := aW.out; have cW : w20.cell? ⟨ap, 0, none⟩ = some (.slice none 0 0) := (blk_cell aB.out 0).trans rfl; have cX : w20.cell? ⟨ap, 1, none⟩ = some (.slice none 0 0) := (blk_cell aB.out 1).trans rfl; have cY := blk_frozen aB.out 0; have cZ := blk_frozen aB.out 1; obtain ⟨aZ, a5, f4⟩ := Kd.R_slice aO.out; subst f4))
   have n0_ : Aside0 (Kd.V k27 27 ((w20.setCell ⟨ap, 0, none⟩ (.slice a7 aU.length a8)).setCell ⟨ap, 1, none⟩ (.slice aZ aP.length a5)) w.heap.size (fun k_ => ((P0_0_ k_ ∨ P0_1_ k_) ∨ w.heap.size ≤ k_) ∧ some k_ ≠ (.slice a7 aU.length a8 : Value).ownBlock ∧ some k_ ≠ (.slice aZ aP.length a5 : Value).ownBlock ∧ k_ ≠ aH ∧ k_ ≠ aI ∧ k_ ≠ az ∧ k_ ≠ ap) (.slice aq l0_0.length ar) l0_0) := ⟨by (with_reducible repeat (first | apply Kd.V_alloc | apply Kd.V_drewN | apply Kd.V_drew)); exact Kd.V_mono (Kd.V_far (p := ⟨ap, 1, none⟩) (Kd.V_far (p := ⟨ap, 0, none⟩) (Kd.V_mono aa.out (fun k_ hk => (⟨hk, hk.2⟩ : _ ∧ k_ ≠ ap))) (fun _ hk => hk.2) (.slice a7 aU.length a8)) (fun _ hk => hk.2) (.slice aZ aP.length a5)) (fun _ hk => ⟨hk.1.1.1.1.1.1.1, ⟨hk.1.1.1.2, ⟨hk.1.1.2, ⟨hk.1.1.1.1.1.1.2, ⟨hk.1.1.1.1.1.2, ⟨hk.1.1.1.1.2, hk.1.2⟩⟩⟩⟩⟩⟩)⟩
   have n1_ : Aside0 (Kd.V Kd.string 9 ((w20.setCell ⟨ap, 0, none⟩ (.slice a7 aU.length a8)).setCell ⟨ap, 1, none⟩ (.slice aZ aP.length a5)) w.heap.size (fun k_ => ((P0_0_ k_ ∨ P0_1_ k_) ∨ w.heap.size ≤ k_) ∧ some k_ ≠ (.slice a7 aU.length a8 : Value).ownBlock ∧ some k_ ≠ (.slice aZ aP.length a5 : Value).ownBlock ∧ k_ ≠ aH ∧ k_ ≠ aI ∧ k_ ≠ az ∧ k_ ≠ ap) (.slice au l0_1.length av) l0_1) := ⟨by (with_reducible repeat (first | apply Kd.V_alloc | apply Kd.V_drewN | apply Kd.V_drew)); exact Kd.V_mono (Kd.V_far (p := ⟨ap, 1, none⟩) (Kd.V_far (p := ⟨ap, 0, none⟩) (Kd.V_mono ab.out (fun k_ hk => (⟨hk, hk.2⟩ : _ ∧ k_ ≠ ap))) (fun _ hk => hk.2) (.slice a7 aU.length a8)) (fun _ hk => hk.2) (.slice aZ aP.length a5)) (fun _ hk => ⟨hk.1.1.1.1.1.1.1, ⟨hk.1.1.1.2, ⟨hk.1.1.2, ⟨hk.1.1.1.1.1.1.2, ⟨hk.1.1.1.1.1.2, ⟨hk.1.1.1.1.2, hk.1.2⟩⟩⟩⟩⟩⟩)⟩
   have n2_ : Aside0 (Kd.R k27 27 ((w20.setCell ⟨ap, 0, none⟩ (.slice a7 aU.length a8)).setCell ⟨ap, 1, none⟩ (.slice aZ aP.length a5)) w.heap.size (fun k_ => (w.heap.size ≤ k_) ∧ k_ ≠ aI) (.slice a7 aU.length a8) aU) := ⟨by (with_reducible repeat (first | apply Kd.R_alloc | apply Kd.R_drewN | apply Kd.R_drew)); exact Kd.R_mono (Kd.R_far (p := ⟨ap, 1, none⟩) (Kd.R_far (p := ⟨ap, 0, none⟩) (Kd.R_types aV.out aB.out (by decide)) (fun _ hk => hk.2) (.slice a7 aU.length a8)) (fun _ hk => hk.2) (.slice aZ aP.length a5)) (fun _ hk => ⟨hk.1.1.1, hk.1.2⟩)⟩
   have n3_ : Aside0 (Kd.R Kd.string 9 ((w20.setCell ⟨ap, 0, none⟩ (.slice a7 aU.length a8)).setCell ⟨ap, 1, none⟩ (.slice aZ aP.length a5)) w.heap.size (fun k_ => (w.heap.size ≤ k_)) (.slice aZ aP.length a5) aP) := ⟨by (with_reducible repeat (first | apply Kd.R_alloc | apply Kd.R_drewN | apply Kd.R_drew)); exact Kd.R_mono (Kd.R_far (p := ⟨ap, 1, none⟩) (Kd.R_far (p := ⟨ap, 0, none⟩) (Kd.R_types aO.out aB.out (by decide)) (fun _ hk => hk.2) (.slice a7 aU.length a8)) (fun _ hk => hk.2) (.slice aZ aP.length a5)) (fun _ hk => hk.1.1)⟩
   have n4_ : Aside0 (((w20.setCell ⟨ap, 0, none⟩ (.slice a7 aU.length a8)).setCell ⟨ap, 1, none⟩ (.slice aZ aP.length a5)).heap[aH]? = some (.cells #[.slice aq l0_0.length ar, .slice au l0_1.length av] 25 (0, 0))) := ⟨by (with_reducible repeat (first | apply bn | apply bd | apply ba)); refine blk_far ?_ bz.out _; (with_reducible repeat (first | apply bn | apply bd | apply ba)); refine blk_far ?_ bz.out _; exact bT ah.out⟩
   have n5_ : Aside0 (((w20.setCell ⟨ap, 0, none⟩ (.slice a7 aU.length a8)).setCell ⟨ap, 1, none⟩ (.slice aZ aP.length a5)).heap[aI]? = some (.cells #[.string a1_0, .string a1_1] 27 (0, 0))) := ⟨by (with_reducible repeat (first | apply bn | apply bd | apply ba)); refine blk_far ?_ bA.out _; (with_reducible repeat (first | apply bn | apply bd | apply ba)); refine blk_far ?_ bA.out _; exact bT ao.out⟩
   have n6_ : Aside0 (((w20.setCell ⟨ap, 0, none⟩ (.slice a7 aU.length a8)).setCell ⟨ap, 1, none⟩ (.slice aZ aP.length a5)).heap[az]? = some (.cells #[.slice none 0 0, .slice none 0 0] 25 (0, 0))) := ⟨by (with_reducible repeat (first | apply bn | apply bd | apply ba)); refine blk_far ?_ aW.out _; (with_reducible repeat (first | apply bn | apply bd | apply ba)); refine blk_far ?_ aW.out _; exact bT aw.out⟩
   have n7_ : Aside0 (((w20.setCell ⟨ap, 0, none⟩ (.slice a7 aU.length a8)).setCell ⟨ap, 1, none⟩ (.slice aZ aP.length a5)).heap[ap]? = some (.cells #[.slice a7 aU.length a8, .slice aZ aP.length a5] 25 (0, 0))) := ⟨by (with_reducible repeat (first | apply bn | apply bd | apply ba)); refine blk_put (cs := #[.slice a7 aU.length a8, .slice none 0 0]) ?_ 1 _ rfl; (with_reducible repeat (first | apply bn | apply bd | apply ba)); refine blk_put (cs := #[.slice none 0 0, .slice none 0 0]) ?_ 0 _ rfl; exact bT aB.out⟩
   have n8_ : Aside0 (Below w.heap.size w ((w20.setCell ⟨ap, 0, none⟩ (.slice a7 aU.length a8)).setCell ⟨ap, 1, none⟩ (.slice aZ aP.length a5))) := ⟨by repeat (first | (with_reducible first | exact HB.out | apply pA | apply pN | apply pD | refine eU ?_ (by assumption)) | exact HB.out)⟩
   (try clear aa)
   (try clear ab)
   (try clear aV)
   (try clear aO)
   (try clear ah)
   (try clear ao)
   (try clear aw)
   (try clear aB)
   (try clear HB)
   generalize ((w20.setCell ⟨ap, 0, none⟩ (.slice a7 aU.length a8)).setCell ⟨ap, 1, none⟩ (.slice aZ aP.length a5)) = w27 at n0_ n1_ n2_ n3_ n4_ n5_ n6_ n7_ n8_ ⊢
   have aa := n0_
   have ab := n1_
   have aV := n2_
   have aO := n3_
   have ah := n4_
   have ao := n5_
   have aw := n6_
   have aB := n7_
   have HB := n8_
   clear n0_ n1_ n2_ n3_ n4_ n5_ n6_ n7_ n8_
   have n0_ := am (Kd.V_drew aa.out)
   have n1_ := am (Kd.V_drew ab.out)
   have n2_ := am (Kd.R_drew aV.out)
   have n3_ := am (Kd.R_drew aO.out)
   have n4_ := am (blk_drew ah.out)
   have n5_ := am (blk_drew ao.out)
   have n6_ := am (blk_drew aw.out)
   have n7_ := am (blk_drew aB.out)
   have n8_ := am (below_drew1 HB.out)
   clear aa ab aV aO ah ao aw aB HB
   have aa := n0_
   have ab := n1_
   have aV := n2_
   have aO := n3_
   have ah := n4_
   have ao := n5_
   have aw := n6_
   have aB := n7_
   have HB := n8_
   clear n0_ n1_ n2_ n3_ n4_ n5_ n6_ n7_ n8_
   refine start_ (n := 16) (S := fun w' => w'.cell? ⟨ap, 0, none⟩ = some (.slice a7 aU.length a8) ∧ w'.cell? ⟨ap, 1, none⟩ = some (.slice aZ aP.length a5)) (ds := [13, 15]) #[false, false, false, false, false, false, false, false, false, false, false, false, false, false, false, false] (by kernel_rfl) rfl rfl ⟨(blk_cell aB.out 0).trans rfl, (blk_cell aB.out 1).trans rfl⟩ (fun hHeld => ?_); refine with_tabW store_Drop.tab7 store_Drop.bits7 (fun HT_ HW_ => ?_)
   generalize w27.drew = w28 at aa ab aV aO ah ao aw aB HB hHeld ⊢
   refine pure_ (i := 0) (N := some 28) (v := ?_) (a' := ?_) #[true, false, false, false, false, false, false, false, false, false, false, false, false, false, false, false] rfl rfl (any_of HT_.out (by kernel_rfl)) (fun _ _ _ h => h) (Or.inl ⟨by rfl, ?_⟩) ?_ ?_
   rotate_left
   ·intro w'
    go_simp
    with_reducible rfl
   rotate_left
   ·simp only [pS]
    rfl
   refine pure_ (i := 2) (N := some 30) (v := ?_) (a' := ?_) #[true, false, true, false, false, false, false, false, false, false, false, false, false, false, false, false] rfl rfl (any_of HT_.out (by kernel_rfl)) (fun _ _ _ h => h) (Or.inl ⟨by rfl, ?_⟩) ?_ ?_
   rotate_left
   ·intro w'
    go_simp
    with_reducible rfl
   rotate_left
   ·simp only [pS]
    rfl
   refine pure_ (i := 3) (N := some 31) (v := ?_) (a' := ?_) #[true, false, true, true, false, false, false, false, false, false, false, false, false, false, false, false] rfl rfl (any_of HT_.out (by kernel_rfl)) (fun _ _ _ h => h) (Or.inl ⟨by rfl, ?_⟩) ?_ ?_
   rotate_left
   ·intro w'
    go_simp
    with_reducible rfl
   rotate_left
   ·simp only [pS]
    rfl
   refine pure_ (i := 4) (N := some 32) (v := ?_) (a' := ?_) #[true, false, true, true, true, false, false, false, false, false, false, false, false, false, false, false] rfl rfl (any_of HT_.out (by kernel_rfl)) (fun _ _ _ h => h) (Or.inl ⟨by rfl, ?_⟩) ?_ ?_
   rotate_left
   ·intro w'
    go_simp
    with_reducible rfl
   rotate_left
   ·simp only [pS]
    rfl
   refine pure_ (i := 6) (N := some 34) (v := ?_) (a' := ?_) #[true, false, true, true, true, false, true, false, false, false, false, false, false, false, false, false] rfl rfl (any_of HT_.out (by kernel_rfl)) (fun _ _ _ h => h) (Or.inl ⟨by rfl, ?_⟩) ?_ ?_
   rotate_left
   ·intro w'
    go_simp
    with_reducible rfl
   rotate_left
   ·simp only [pS]
    rfl
   refine pure_ (i := 8) (N := some 36) (v := ?_) (a' := ?_) #[true, false, true, true, true, false, true, false, true, false, false, false, false, false, false, false] rfl rfl (any_of HT_.out (by kernel_rfl)) (fun _ _ _ h => h) (Or.inl ⟨by rfl, ?_⟩) ?_ ?_
   rotate_left
   ·intro w'
    go_simp
    with_reducible rfl
   rotate_left
   ·simp only [pS]
    rfl
   refine pure_ (i := 9) (N := some 37) (v := ?_) (a' := ?_) #[true, false, true, true, true, false, true, false, true, true, false, false, false, false, false, false] rfl rfl (any_of HT_.out (by kernel_rfl)) (fun _ _ _ h => h) (Or.inl ⟨by rfl, ?_⟩) ?_ ?_
   rotate_left
   ·intro w'
    go_simp
    with_reducible rfl
   rotate_left
   ·simp only [pS]
    rfl
   refine pure_ (i := 10) (N := some 38) (v := ?_) (a' := ?_) #[true, false, true, true, true, false, true, false, true, true, true, false, false, false, false, false] rfl rfl (any_of HT_.out (by kernel_rfl)) (fun _ _ _ h => h) (Or.inl ⟨by rfl, ?_⟩) ?_ ?_
   rotate_left
   ·intro w'
    go_simp
    with_reducible rfl
   rotate_left
   ·simp only [pS]
    rfl
   refine take_ (i := 1) (N := some 29) (v := ?_) (a' := ?_) #[true, true, true, true, true, false, true, false, true, true, true, false, false, false, false, false] rfl rfl (take_ofW HT_.out HW_.out (by kernel_rfl)) (fun _ _ _ h => h) (Or.inl ⟨by rfl, ?_⟩) hHeld ?_ ?_
   rotate_left
   ·rintro w' ⟨s0, s1⟩
    go_simp
    with_reducible rfl
   rotate_left
   ·simp only [pS]
    rfl
   refine take_ (i := 7) (N := some 35) (v := ?_) (a' := ?_) #[true, true, true, true, true, false, true, true, true, true, true, false, false, false, false, false] rfl rfl (take_ofW HT_.out HW_.out (by kernel_rfl)) (fun _ _ _ h => h) (Or.inl ⟨by rfl, ?_⟩) hHeld ?_ ?_
   rotate_left
   ·rintro w' ⟨s0, s1⟩
    go_simp
    with_reducible rfl
   rotate_left
   ·simp only [pS]
    rfl
   refine one_ (i := 5) (N := some 33) #[true, true, true, true, true, true, true, true, true, true, true, false, false, false, false, false] rfl rfl (one_of HT_.out (by kernel_rfl)) (by decide) (fun K hK => ?_)
   refine goes_ Tryd.func22 (by kernel_rfl) rfl #[.slice a7 aU.length a8, .int .i64 a6, .int .i64 (wrap64 (a6 + 1))] (by rfl) rfl rfl (by (try simp only [List.map_toArray, List.map_cons, List.map_nil]); first | done | rfl | (simp only [List.length_drop, List.length_take]; rfl)) ?_
   with_reducible refine (api_Node_22.calls (fun k_ => some k_ = (.slice a7 aU.length a8 : Value).ownBlock) (.slice a7 aU.length a8) aU a6 (wrap64 (a6 + 1)) bE w _ ?side1 ?side2 A7.out).mono ?_
   (case side1 => repeat (first | (with_reducible first | exact HB.out | apply pA | apply pN | apply pD | refine eU ?_ (by assumption)) | exact HB.out))
   (case side2 => exact Kd.R_tight rfl aV.out)
   rintro e w29 ⟨c0, rfl, ho0, hb, hkp⟩
   refine ⟨_, rfl, ?_⟩
   have n0_ := am (Kd.V_mono (ok' := fun k_ => ((P0_0_ k_ ∨ P0_1_ k_) ∨ w.heap.size ≤ k_) ∧ some k_ ≠ (.slice aZ aP.length a5 : Value).ownBlock ∧ k_ ≠ aH ∧ k_ ≠ aI ∧ k_ ≠ az ∧ k_ ≠ ap ∧ some k_ ≠ (c0 : Value).ownBlock) (Kd.V_keptB (aa.out) hkp (fun k_ hk_ hs_ => (hk_.2.1) hs_)) (fun k_ hk_ => ⟨hk_.1.1, hk_.1.2.2.1, hk_.1.2.2.2.1, hk_.1.2.2.2.2.1, hk_.1.2.2.2.2.2.1, hk_.1.2.2.2.2.2.2, fun e_ => Or.elim (ho0.1 k_ e_.symm) (fun hs_ => hk_.2.1 hs_) (fun hn_ => Nat.not_le.2 hk_.2.2 hn_)⟩))
   have n1_ := am (Kd.V_mono (ok' := fun k_ => ((P0_0_ k_ ∨ P0_1_ k_) ∨ w.heap.size ≤ k_) ∧ some k_ ≠ (.slice aZ aP.length a5 : Value).ownBlock ∧ k_ ≠ aH ∧ k_ ≠ aI ∧ k_ ≠ az ∧ k_ ≠ ap ∧ some k_ ≠ (c0 : Value).ownBlock) (Kd.V_keptB (ab.out) hkp (fun k_ hk_ hs_ => (hk_.2.1) hs_)) (fun k_ hk_ => ⟨hk_.1.1, hk_.1.2.2.1, hk_.1.2.2.2.1, hk_.1.2.2.2.2.1, hk_.1.2.2.2.2.2.1, hk_.1.2.2.2.2.2.2, fun e_ => Or.elim (ho0.1 k_ e_.symm) (fun hs_ => hk_.2.1 hs_) (fun hn_ => Nat.not_le.2 hk_.2.2 hn_)⟩))
   have n2_ := am (blk_kept (bT ah.out) hkp (fun hs_ => (fun e_ => (Kd.R_ne aV.out ah.out (by decide)) e_) hs_))
   have n3_ := am (blk_kept (bT ao.out) hkp (fun hs_ => (fun e_ => (Kd.R_away aV.out (fun _ hk => hk.2)) e_) hs_))
   have n4_ := am (blk_kept (bT aw.out) hkp (fun hs_ => (fun e_ => (Kd.R_ne aV.out aw.out (by decide)) e_) hs_))
   have n5_ := am (Kd.R_mono (ok' := fun k_ => (w.heap.size ≤ k_)) (Kd.R_keptB ((Kd.R_apart' aO.out (Kd.R_typed aV.out) (by decide))) hkp (fun k_ hk_ hs_ => (hk_.2) hs_)) (fun k_ hk_ => hk_.1.1))
   have n6_ := am (blk_kept (bT aB.out) hkp (fun hs_ => (fun e_ => (Kd.R_ne aV.out aB.out (by decide)) e_) hs_))
   have n7_ := am (Kd.R_mono (ok' := fun k_ => (w.heap.size ≤ k_) ∧ k_ ≠ aI) ho0 (fun k_ hk_ => ⟨Or.elim hk_ (fun hs_ => (aV.out.1 k_ (hs_).symm).1) (fun hn_ => (Nat.le_trans (below_size (eT HB.out)) hn_)), Or.elim hk_ (fun hs_ => fun e_ => (Kd.R_away aV.out (fun _ hk => hk.2)) (by rw [← e_]; exact hs_)) (fun hn_ => (Kd.freshB (g := aI) (o := .cells #[.string a1_0, .string a1_1] 27 (0, 0)) (bT ao.out) k_ hn_))⟩))
   have n8_ := am (hb)
   clear aa ab ah ao aw aO aB HB aV
   have aa := n0_
   have ab := n1_
   have ah := n2_
   have ao := n3_
   have aw := n4_
   have aO := n5_
   have aB := n6_
   have b_ := n7_
   have HB := n8_
   clear n0_ n1_ n2_ n3_ n4_ n5_ n6_ n7_ n8_
   (try clear hb)
   (try clear hkp)
   (try clear ho0)
   refine hK.out _ _ ⟨(blk_cell aB.out 0).trans rfl, (blk_cell aB.out 1).trans rfl⟩ (fun hHeld => ?_)
   clear hK K
   refine norm_ (a' := ?_) ?_ ?_
   rotate_left
   ·show Act.put _ (some 33) _ = _
    simp only [pS]
    rfl
   refine pure_ (i := 12) (N := some 40) (v := ?_) (a' := ?_) #[true, true, true, true, true, true, true, true, true, true, true, false, true, false, false, false] rfl rfl (any_of HT_.out (by kernel_rfl)) (fun _ _ _ h => h) (Or.inl ⟨by rfl, ?_⟩) ?_ ?_
   rotate_left
   ·intro w'
    go_simp
    with_reducible rfl
   rotate_left
   ·simp only [pS]
    rfl
   refine one_ (i := 11) (N := some 39) #[true, true, true, true, true, true, true, true, true, true, true, true, true, false, false, false] rfl rfl (one_of HT_.out (by kernel_rfl)) (by decide) (fun K hK => ?_)
   refine goes_ Tryd.func23 (by kernel_rfl) rfl #[.slice aZ aP.length a5, .int .i64 a6, .int .i64 (wrap64 (a6 + 1))] (by rfl) rfl rfl (by (try simp only [List.map_toArray, List.map_cons, List.map_nil]); first | done | rfl | (simp only [List.length_drop, List.length_take]; rfl)) ?_
   with_reducible refine (slices_Delete_string_string.calls (fun k_ => some k_ = (.slice aZ aP.length a5 : Value).ownBlock) (.slice aZ aP.length a5) aP a6 (wrap64 (a6 + 1)) bF w _ ?side1 ?side2 A8.out).mono ?_
   (case side1 => repeat (first | (with_reducible first | exact HB.out | apply pA | apply pN | apply pD | refine eU ?_ (by assumption)) | exact HB.out))
   (case side2 => exact Kd.R_tight rfl aO.out)
   rintro e w30 ⟨d1, rfl, ho0, hb, hkp⟩
   refine ⟨_, rfl, ?_⟩
   have n0_ := am (Kd.V_mono (ok' := fun k_ => ((P0_0_ k_ ∨ P0_1_ k_) ∨ w.heap.size ≤ k_) ∧ some k_ ≠ (c0 : Value).ownBlock ∧ k_ ≠ aH ∧ k_ ≠ aI ∧ k_ ≠ az ∧ k_ ≠ ap ∧ some k_ ≠ (d1 : Value).ownBlock) (Kd.V_keptB (aa.out) hkp (fun k_ hk_ hs_ => (hk_.2.1) hs_)) (fun k_ hk_ => ⟨hk_.1.1, hk_.1.2.2.2.2.2.2, hk_.1.2.2.1, hk_.1.2.2.2.1, hk_.1.2.2.2.2.1, hk_.1.2.2.2.2.2.1, fun e_ => Or.elim (ho0.1 k_ e_.symm) (fun hs_ => hk_.2.1 hs_) (fun hn_ => Nat.not_le.2 hk_.2.2 hn_)⟩))
   have n1_ := am (Kd.V_mono (ok' := fun k_ => ((P0_0_ k_ ∨ P0_1_ k_) ∨ w.heap.size ≤ k_) ∧ some k_ ≠ (c0 : Value).ownBlock ∧ k_ ≠ aH ∧ k_ ≠ aI ∧ k_ ≠ az ∧ k_ ≠ ap ∧ some k_ ≠ (d1 : Value).ownBlock) (Kd.V_keptB (ab.out) hkp (fun k_ hk_ hs_ => (hk_.2.1) hs_)) (fun k_ hk_ => ⟨hk_.1.1, hk_.1.2.2.2.2.2.2, hk_.1.2.2.1, hk_.1.2.2.2.1, hk_.1.2.2.2.2.1, hk_.1.2.2.2.2.2.1, fun e_ => Or.elim (ho0.1 k_ e_.symm) (fun hs_ => hk_.2.1 hs_) (fun hn_ => Nat.not_le.2 hk_.2.2 hn_)⟩))
   have n2_ := am (blk_kept (bT ah.out) hkp (fun hs_ => (fun e_ => (Kd.R_ne aO.out ah.out (by decide)) e_) hs_))
   have n3_ := am (blk_kept (bT ao.out) hkp (fun hs_ => (fun e_ => (Kd.R_ne aO.out ao.out (by decide)) e_) hs_))
   have n4_ := am (blk_kept (bT aw.out) hkp (fun hs_ => (fun e_ => (Kd.R_ne aO.out aw.out (by decide)) e_) hs_))
   have n5_ := am (blk_kept (bT aB.out) hkp (fun hs_ => (fun e_ => (Kd.R_ne aO.out aB.out (by decide)) e_) hs_))
   have n6_ := am (Kd.R_mono (ok' := fun k_ => (w.heap.size ≤ k_) ∧ k_ ≠ aI) (Kd.R_keptB ((Kd.R_apart' b_.out (Kd.R_typed aO.out) (by decide))) hkp (fun k_ hk_ hs_ => (hk_.2) hs_)) (fun k_ hk_ => ⟨hk_.1.1.1, hk_.1.1.2⟩))
   have n7_ := am (Kd.R_mono (ok' := fun k_ => (w.heap.size ≤ k_)) ho0 (fun k_ hk_ => Or.elim hk_ (fun hs_ => (aO.out.1 k_ (hs_).symm)) (fun hn_ => (Nat.le_trans (below_size (eT HB.out)) hn_))))
   have n8_ := am (hb)
   clear aa ab ah ao aw aB b_ HB aO
   have aa := n0_
   have ab := n1_
   have ah := n2_
   have ao := n3_
   have aw := n4_
   have aB := n5_
   have b_ := n6_
   have dr := n7_
   have HB := n8_
   clear n0_ n1_ n2_ n3_ n4_ n5_ n6_ n7_ n8_
   (try clear hb)
   (try clear hkp)
   (try clear ho0)
   obtain ⟨cg, ch, d2⟩ := Kd.R_slice b_.out
   (first | subst d2 | (injection d2 with f1_ f2_ f3_; have f4_ := f1_.symm; have f5_ := f3_.symm; clear f1_ f2_ f3_; subst f4_; subst f5_))
   obtain ⟨cr, ct, d3⟩ := Kd.R_slice dr.out
   (first | subst d3 | (injection d3 with f1_ f2_ f3_; have f4_ := f1_.symm; have f5_ := f3_.symm; clear f1_ f2_ f3_; subst f4_; subst f5_))
   refine hK.out _ _ ⟨(blk_cell aB.out 0).trans rfl, (blk_cell aB.out 1).trans rfl⟩ (fun hHeld => ?_)
   clear hK K
   refine norm_ (a' := ?_) ?_ ?_
   rotate_left
   ·show Act.put _ (some 39) _ = _
    simp only [pS]
    rfl
   refine last_ (i := 13) (N := none) #[true, true, true, true, true, true, true, true, true, true, true, true, true, true, false, false] rfl rfl (one_of HT_.out (by kernel_rfl)) (by decide) (fun K hK => ?_)
   have gS : w30.cell? ⟨ap, 0, none⟩ = some (.slice a7 aU.length a8) := (blk_cell aB.out 0).trans rfl
   have gC := blk_frozen aB.out 0
   have fj := bz.out
   have fk := bA.out
   have fl := aW.out
   have fm := bK.out
   have fn := bL.out
   have fo := bM.out
   refine skip_ (w1 := ?_) (by rfl) rfl ?_ ?_
   rotate_left
   ·go_simp
    rfl
   refine hK.out _ _ ?_
   clear hK K
   refine pure_ (i := 14) (N := some 41) (v := ?_) (a' := ?_) #[true, true, true, true, true, true, true, true, true, true, true, true, true, true, true, false] rfl rfl (any_of HT_.out (by kernel_rfl)) (fun _ _ _ h => h) (Or.inl ⟨by rfl, ?_⟩) ?_ ?_
   rotate_left
   ·intro w'
    go_simp
    with_reducible rfl
   rotate_left
   ·simp only [pS]
    rfl
   refine last_ (i := 15) (N := none) #[true, true, true, true, true, true, true, true, true, true, true, true, true, true, true, true] rfl rfl (one_of HT_.out (by kernel_rfl)) (by decide) (fun K hK => ?_)
   have gU : w30.cell? ⟨ap, 1, none⟩ = some (.slice aZ aP.length a5) := (blk_cell aB.out 1).trans rfl
   have gD := blk_frozen aB.out 1
   have fp := bz.out
   have fq := bA.out
   have fr := aW.out
   have fs := bK.out
   have ft := bL.out
   have fu := bM.out
   refine skip_ (w1 := ?_) (by rfl) rfl ?_ ?_
   rotate_left
   ·go_simp
    rfl
   refine hK.out _ _ ?_
   clear hK K
   refine done_ (done_of HT_.out (by kernel_rfl)) ?_
   have fv : w30.cell? ⟨ap, 0, none⟩ = some (.slice a7 aU.length a8) := (blk_cell aB.out 0).trans rfl
   have fw : w30.cell? ⟨ap, 1, none⟩ = some (.slice aZ aP.length a5) := (blk_cell aB.out 1).trans rfl
   have fx := blk_frozen aB.out 0
   have fy := blk_frozen aB.out 1
   have fz : w30.cell? ⟨az, 0, none⟩ = some (.slice none 0 0) := (blk_cell aw.out 0).trans rfl
   have fA : w30.cell? ⟨az, 1, none⟩ = some (.slice none 0 0) := (blk_cell aw.out 1).trans rfl
   have fB := blk_frozen aw.out 0
   have fC := blk_frozen aw.out 1
   try go_wp2
   refine bodyPost_ret (results_ct rfl _ _ az 25 #[.slice cg bE.length ch, .slice cr bF.length ct] (0, 0) _ rfl (by (with_reducible repeat (first | apply bn | apply bd | apply ba)); refine blk_put (cs := #[.slice cg bE.length ch, .slice none 0 0]) ?_ 1 _ rfl; (with_reducible repeat (first | apply bn | apply bd | apply ba)); refine blk_put (cs := #[.slice none 0 0, .slice none 0 0]) ?_ 0 _ rfl; (with_reducible repeat (first | apply bn | apply bd | apply ba)); refine blk_far ?_ aW.out _; (with_reducible repeat (first | apply bn | apply bd | apply ba)); refine blk_far ?_ aW.out _; exact bT aw.out) Tryd.underlying25 rfl (by kernel_rfl)) rfl ?_
   exact ⟨_, _, by first | rfl | (simp [errW_none, errW_some] <;> rfl) | (simp [*, errW_none, errW_some] <;> rfl), Kd.V_mono (Kd.R_V (by (with_reducible repeat (first | apply Kd.R_alloc | apply Kd.R_drewN | apply Kd.R_drew)); exact Kd.R_mono (Kd.R_far (p := ⟨az, 1, none⟩) (Kd.R_far (p := ⟨az, 0, none⟩) (Kd.R_far (p := ⟨ap, 1, none⟩) (Kd.R_far (p := ⟨ap, 0, none⟩) (Kd.R_types (Kd.R_types b_.out aB.out (by decide)) aw.out (by decide)) (fun _ hk => hk.1.2) (.slice cg bE.length ch)) (fun _ hk => hk.1.2) (.slice cr bF.length ct)) (fun _ hk => hk.2) (.slice cg bE.length ch)) (fun _ hk => hk.2) (.slice cr bF.length ct)) (fun _ hk => hk.1.1.1))) (fun k_ hk => by first | exact ⟨(.inr (hk.1)), hk.2⟩ | exact (.inr (hk))), Kd.V_mono (Kd.R_V (by (with_reducible repeat (first | apply Kd.R_alloc | apply Kd.R_drewN | apply Kd.R_drew)); exact Kd.R_mono (Kd.R_far (p := ⟨az, 1, none⟩) (Kd.R_far (p := ⟨az, 0, none⟩) (Kd.R_far (p := ⟨ap, 1, none⟩) (Kd.R_far (p := ⟨ap, 0, none⟩) (Kd.R_types (Kd.R_types dr.out aB.out (by decide)) aw.out (by decide)) (fun _ hk => hk.1.2) (.slice cg bE.length ch)) (fun _ hk => hk.1.2) (.slice cr bF.length ct)) (fun _ hk => hk.2) (.slice cg bE.length ch)) (fun _ hk => hk.2) (.slice cr bF.length ct)) (fun _ hk => hk.1.1))) (fun k_ hk => by first | exact ⟨(.inr (hk.1)), hk.2⟩ | exact (.inr (hk))), by repeat (first | (with_reducible first | exact HB.out | apply pA | apply pN | apply pD | refine eU ?_ (by assumption)) | exact HB.out)⟩
  ·replace c5 := Bool.eq_false_iff.mpr c5
   subst c5
   have H1 : (some (l0_0, l0_1, 2)) = some (r1, r2, r3) := by rw [if_neg (show ¬ (false = true) by decide)] at H; exact H
   clear H
   have H := H1
   clear H1
   simp only [Option.some.injEq, Prod.mk.injEq] at H
   obtain ⟨rfl, rfl, rfl⟩ := H
   go_enter Tryd.func12, Tryd.ntmps12
   go_wp2_with (first | ((with_reducible refine gate_dst (N := 2) rfl ?_); refine box_event ?hg (N := 2) ?hd (cs := #[.slice aq l0_0.length ar, .slice au l0_1.length av]) (t := 25) ?hr ?_; (case hd => rfl); (case hg => rfl); (case hr => first | (go_simp; done) | (go_simp; rfl)); intro aH hg w37 hbox hb; replace aa := am (Kd.V_below (Kd.V_elderB (vT aa.out) aH (Nat.le_of_eq hg.symm)) hb); replace ab := am (Kd.V_below (Kd.V_elderB (vT ab.out) aH (Nat.le_of_eq hg.symm)) hb); have ah := am (hbox); have dk := am ((gT hg HB.out)); have dl := am ((gT hg HB.out)); replace HB := am (sT HB.out hb); clear hb hbox hg) | ((with_reducible refine gate_dst (N := 3) rfl ?_); refine box_event ?hg (N := 3) ?hd (cs := #[.string a1_0, .string a1_1]) (t := 27) ?hr ?_; (case hd => rfl); (case hg => rfl); (case hr => first | (go_simp; done) | (go_simp; rfl)); intro aI hg w38 hbox hb; replace aa := am (Kd.V_below (Kd.V_elderB (vT aa.out) aI (Nat.le_of_eq hg.symm)) hb); replace ab := am (Kd.V_below (Kd.V_elderB (vT ab.out) aI (Nat.le_of_eq hg.symm)) hb); have ao := am (hbox); have dm := am ((gT hg HB.out)); have dn := am ((gT hg HB.out)); have bs := am ((nT ah.out hg)); have bt := am ((mT ah.out hg)); replace ah := am (bB ah.out hb); replace HB := am (sT HB.out hb); clear hb hbox hg) | ((with_reducible refine gate_dst (N := 4) rfl ?_); refine box_event ?hg (N := 4) ?hd (cs := #[.slice none 0 0, .slice none 0 0]) (t := 25) ?hr ?_; (case hd => rfl); (case hg => rfl); (case hr => first | (go_simp; done) | (go_simp; rfl)); intro az hg w39 hbox hb; replace aa := am (Kd.V_below (Kd.V_elderB (vT aa.out) az (Nat.le_of_eq hg.symm)) hb); replace ab := am (Kd.V_below (Kd.V_elderB (vT ab.out) az (Nat.le_of_eq hg.symm)) hb); have aw := am (hbox); have dp := am ((gT hg HB.out)); have dq := am ((gT hg HB.out)); have bu := am ((nT ah.out hg)); have bv := am ((mT ah.out hg)); have bw := am ((nT ao.out hg)); have bx := am ((mT ao.out hg)); replace ah := am (bB ah.out hb); replace ao := am (bB ao.out hb); replace HB := am (sT HB.out hb); clear hb hbox hg; have dK := bs.out; have dL := bt.out; have dM := bu.out; have dN := bv.out; have cA : w39.cell? ⟨aH, 0, none⟩ = some (.slice aq l0_0.length ar) := (blk_cell ah.out 0).trans rfl; have cB : w39.cell? ⟨aH, 1, none⟩ = some (.slice au l0_1.length av) := (blk_cell ah.out 1).trans rfl; have cC := blk_frozen ah.out 0; have cD := blk_frozen ah.out 1; have dP := bw.out; have dQ := bx.out; have cE : w39.cell? ⟨aI, 0, none⟩ = some (.string a1_0) := (blk_cell ao.out 0).trans rfl; have cF : w39.cell? ⟨aI, 1, none⟩ = some (.string a1_1) := (blk_cell ao.out 1).trans rfl; have cG := blk_frozen ao.out 0; have cH := blk_frozen ao.out 1) | ((with_reducible refine gate_callee (f := 18) rfl ?_); refine goesL_ (some 13) rfl rfl Tryd.func18 (by kernel_rfl) rfl #[.agg #[.slice aq l0_0.length ar, .slice au l0_1.length av], .agg #[.string a1_0, .string a1_1]] rfl (by (try simp only [List.map_toArray, List.map_cons, List.map_nil]); first | done | rfl | (simp only [List.length_drop, List.length_take]; rfl)) ?_; (with_reducible refine (store_find.calls k _ _ l0_0 _ _ l0_1 a1_0 a1_1 a6 false bW _ ?side1 ?side2 ?side3 ?side4 A3.out).mono ?_); (case side1 => repeat (first | exact (Kd.V_reads' aa.out).2.2 | (with_reducible refine Kd.C_alloc ?_ _) | (with_reducible refine Kd.C_drewN ?_ _) | (with_reducible refine Kd.C_drew ?_))); (case side2 => exact (Kd.V_reads' aa.out).2.1); (case side3 => repeat (first | exact (Kd.V_reads' ab.out).2.2 | (with_reducible refine Kd.C_alloc ?_ _) | (with_reducible refine Kd.C_drewN ?_ _) | (with_reducible refine Kd.C_drew ?_))); (case side4 => exact (Kd.V_reads' ab.out).2.1); rintro e w45 ⟨rfl, hb⟩; refine ⟨_, rfl, ?_⟩; replace aa := am (vB aa.out hb); replace ab := am (vB ab.out hb); replace ah := am (bB ah.out hb); replace ao := am (bB ao.out hb); replace aw := am (bB aw.out hb); replace HB := am (sT HB.out hb); (try clear hb); (try clear hb2); (try clear hk); (try clear hi); have cI : w45.cell? ⟨aH, 0, none⟩ = some (.slice aq l0_0.length ar) := (blk_cell ah.out 0).trans rfl; have cJ : w45.cell? ⟨aH, 1, none⟩ = some (.slice au l0_1.length av) := (blk_cell ah.out 1).trans rfl; have cK := blk_frozen ah.out 0; have cL := blk_frozen ah.out 1; have fD : w45.cell? ⟨az, 0, none⟩ = some (.slice none 0 0) := (blk_cell aw.out 0).trans rfl; have fE : w45.cell? ⟨az, 1, none⟩ = some (.slice none 0 0) := (blk_cell aw.out 1).trans rfl; have fF := blk_frozen aw.out 0; have fG := blk_frozen aw.out 1))
   refine bodyPost_ret (results_ct rfl _ _ az 25 #[.slice aq l0_0.length ar, .slice au l0_1.length av] (0, 0) _ rfl (by (with_reducible repeat (first | apply bn | apply bd | apply ba)); refine blk_put (cs := #[.slice aq l0_0.length ar, .slice none 0 0]) ?_ 1 _ rfl; (with_reducible repeat (first | apply bn | apply bd | apply ba)); refine blk_put (cs := #[.slice none 0 0, .slice none 0 0]) ?_ 0 _ rfl; exact bT aw.out) Tryd.underlying25 rfl (by kernel_rfl)) rfl ?_
   exact ⟨_, _, by first | rfl | (simp [errW_none, errW_some] <;> rfl) | (simp [*, errW_none, errW_some] <;> rfl), by (with_reducible repeat (first | apply Kd.V_alloc | apply Kd.V_drewN | apply Kd.V_drew)); exact Kd.V_mono (Kd.V_far (p := ⟨az, 1, none⟩) (Kd.V_far (p := ⟨az, 0, none⟩) (Kd.V_mono aa.out (fun k_ hk => (⟨hk, hk.2⟩ : _ ∧ k_ ≠ az))) (fun _ hk => hk.2) (.slice aq l0_0.length ar)) (fun _ hk => hk.2) (.slice au l0_1.length av)) (fun _ hk => hk.1.1.1.1), by (with_reducible repeat (first | apply Kd.V_alloc | apply Kd.V_drewN | apply Kd.V_drew)); exact Kd.V_mono (Kd.V_far (p := ⟨az, 1, none⟩) (Kd.V_far (p := ⟨az, 0, none⟩) (Kd.V_mono ab.out (fun k_ hk => (⟨hk, hk.2⟩ : _ ∧ k_ ≠ az))) (fun _ hk => hk.2) (.slice aq l0_0.length ar)) (fun _ hk => hk.2) (.slice au l0_1.length av)) (fun _ hk => hk.1.1.1.1), by repeat (first | (with_reducible first | exact HB.out | apply pA | apply pN | apply pD | refine eU ?_ (by assumption)) | exact HB.out)⟩
 ·rw [if_neg c4] at H
  have dv : (bW == 0) = false := beq_eq_false_iff_ne.mpr c4
  have dw : (bW != 0) = true := bne_iff_ne.mpr c4
  simp only [Option.some.injEq, Prod.mk.injEq] at H
  obtain ⟨rfl, rfl, rfl⟩ := H
  go_enter Tryd.func12, Tryd.ntmps12
  go_wp2_with (first | ((with_reducible refine gate_dst (N := 2) rfl ?_); refine box_event ?hg (N := 2) ?hd (cs := #[.slice aq l0_0.length ar, .slice au l0_1.length av]) (t := 25) ?hr ?_; (case hd => rfl); (case hg => rfl); (case hr => first | (go_simp; done) | (go_simp; rfl)); intro aH hg w48 hbox hb; replace aa := am (Kd.V_below (Kd.V_elderB (vT aa.out) aH (Nat.le_of_eq hg.symm)) hb); replace ab := am (Kd.V_below (Kd.V_elderB (vT ab.out) aH (Nat.le_of_eq hg.symm)) hb); have ah := am (hbox); have dk := am ((gT hg HB.out)); have dl := am ((gT hg HB.out)); replace HB := am (sT HB.out hb); clear hb hbox hg) | ((with_reducible refine gate_dst (N := 3) rfl ?_); refine box_event ?hg (N := 3) ?hd (cs := #[.string a1_0, .string a1_1]) (t := 27) ?hr ?_; (case hd => rfl); (case hg => rfl); (case hr => first | (go_simp; done) | (go_simp; rfl)); intro aI hg w49 hbox hb; replace aa := am (Kd.V_below (Kd.V_elderB (vT aa.out) aI (Nat.le_of_eq hg.symm)) hb); replace ab := am (Kd.V_below (Kd.V_elderB (vT ab.out) aI (Nat.le_of_eq hg.symm)) hb); have ao := am (hbox); have dm := am ((gT hg HB.out)); have dn := am ((gT hg HB.out)); have bs := am ((nT ah.out hg)); have bt := am ((mT ah.out hg)); replace ah := am (bB ah.out hb); replace HB := am (sT HB.out hb); clear hb hbox hg) | ((with_reducible refine gate_dst (N := 4) rfl ?_); refine box_event ?hg (N := 4) ?hd (cs := #[.slice none 0 0, .slice none 0 0]) (t := 25) ?hr ?_; (case hd => rfl); (case hg => rfl); (case hr => first | (go_simp; done) | (go_simp; rfl)); intro az hg w50 hbox hb; replace aa := am (Kd.V_below (Kd.V_elderB (vT aa.out) az (Nat.le_of_eq hg.symm)) hb); replace ab := am (Kd.V_below (Kd.V_elderB (vT ab.out) az (Nat.le_of_eq hg.symm)) hb); have aw := am (hbox); have dp := am ((gT hg HB.out)); have dq := am ((gT hg HB.out)); have bu := am ((nT ah.out hg)); have bv := am ((mT ah.out hg)); have bw := am ((nT ao.out hg)); have bx := am ((mT ao.out hg)); replace ah := am (bB ah.out hb); replace ao := am (bB ao.out hb); replace HB := am (sT HB.out hb); clear hb hbox hg; have dR := bs.out; have dS := bt.out; have dT := bu.out; have dU := bv.out; have cM : w50.cell? ⟨aH, 0, none⟩ = some (.slice aq l0_0.length ar) := (blk_cell ah.out 0).trans rfl; have cN : w50.cell? ⟨aH, 1, none⟩ = some (.slice au l0_1.length av) := (blk_cell ah.out 1).trans rfl; have cO := blk_frozen ah.out 0; have cP := blk_frozen ah.out 1; have gE := bw.out; have gF := bx.out; have fH : w50.cell? ⟨aI, 0, none⟩ = some (.string a1_0) := (blk_cell ao.out 0).trans rfl; have fI : w50.cell? ⟨aI, 1, none⟩ = some (.string a1_1) := (blk_cell ao.out 1).trans rfl; have fJ := blk_frozen ao.out 0; have fK := blk_frozen ao.out 1) | ((with_reducible refine gate_callee (f := 18) rfl ?_); refine goesL_ (some 13) rfl rfl Tryd.func18 (by kernel_rfl) rfl #[.agg #[.slice aq l0_0.length ar, .slice au l0_1.length av], .agg #[.string a1_0, .string a1_1]] rfl (by (try simp only [List.map_toArray, List.map_cons, List.map_nil]); first | done | rfl | (simp only [List.length_drop, List.length_take]; rfl)) ?_; (with_reducible refine (store_find.calls k _ _ l0_0 _ _ l0_1 a1_0 a1_1 a6 dx bW _ ?side1 ?side2 ?side3 ?side4 A3.out).mono ?_); (case side1 => repeat (first | exact (Kd.V_reads' aa.out).2.2 | (with_reducible refine Kd.C_alloc ?_ _) | (with_reducible refine Kd.C_drewN ?_ _) | (with_reducible refine Kd.C_drew ?_))); (case side2 => exact (Kd.V_reads' aa.out).2.1); (case side3 => repeat (first | exact (Kd.V_reads' ab.out).2.2 | (with_reducible refine Kd.C_alloc ?_ _) | (with_reducible refine Kd.C_drewN ?_ _) | (with_reducible refine Kd.C_drew ?_))); (case side4 => exact (Kd.V_reads' ab.out).2.1); rintro e w56 ⟨rfl, hb⟩; refine ⟨_, rfl, ?_⟩; replace aa := am (vB aa.out hb); replace ab := am (vB ab.out hb); replace ah := am (bB ah.out hb); replace ao := am (bB ao.out hb); replace aw := am (bB aw.out hb); replace HB := am (sT HB.out hb); (try clear hb); (try clear hb2); (try clear hk); (try clear hi); have fL : w56.cell? ⟨aH, 0, none⟩ = some (.slice aq l0_0.length ar) := (blk_cell ah.out 0).trans rfl; have fM : w56.cell? ⟨aH, 1, none⟩ = some (.slice au l0_1.length av) := (blk_cell ah.out 1).trans rfl; have fN := blk_frozen ah.out 0; have fO := blk_frozen ah.out 1; have fP : w56.cell? ⟨az, 0, none⟩ = some (.slice none 0 0) := (blk_cell aw.out 0).trans rfl; have fQ : w56.cell? ⟨az, 1, none⟩ = some (.slice none 0 0) := (blk_cell aw.out 1).trans rfl; have fR := blk_frozen aw.out 0; have fS := blk_frozen aw.out 1))
  refine bodyPost_ret (results_ct rfl _ _ az 25 #[.slice aq l0_0.length ar, .slice au l0_1.length av] (0, 0) _ rfl (by (with_reducible repeat (first | apply bn | apply bd | apply ba)); refine blk_put (cs := #[.slice aq l0_0.length ar, .slice none 0 0]) ?_ 1 _ rfl; (with_reducible repeat (first | apply bn | apply bd | apply ba)); refine blk_put (cs := #[.slice none 0 0, .slice none 0 0]) ?_ 0 _ rfl; exact bT aw.out) Tryd.underlying25 rfl (by kernel_rfl)) rfl ?_
  exact ⟨_, _, by first | rfl | (simp [errW_none, errW_some] <;> rfl) | (simp [*, errW_none, errW_some] <;> rfl), by (with_reducible repeat (first | apply Kd.V_alloc | apply Kd.V_drewN | apply Kd.V_drew)); exact Kd.V_mono (Kd.V_far (p := ⟨az, 1, none⟩) (Kd.V_far (p := ⟨az, 0, none⟩) (Kd.V_mono aa.out (fun k_ hk => (⟨hk, hk.2⟩ : _ ∧ k_ ≠ az))) (fun _ hk => hk.2) (.slice aq l0_0.length ar)) (fun _ hk => hk.2) (.slice au l0_1.length av)) (fun _ hk => hk.1.1.1.1), by (with_reducible repeat (first | apply Kd.V_alloc | apply Kd.V_drewN | apply Kd.V_drew)); exact Kd.V_mono (Kd.V_far (p := ⟨az, 1, none⟩) (Kd.V_far (p := ⟨az, 0, none⟩) (Kd.V_mono ab.out (fun k_ hk => (⟨hk, hk.2⟩ : _ ∧ k_ ≠ az))) (fun _ hk => hk.2) (.slice aq l0_0.length ar)) (fun _ hk => hk.2) (.slice au l0_1.length av)) (fun _ hk => hk.1.1.1.1), by repeat (first | (with_reducible first | exact HB.out | apply pA | apply pN | apply pD | refine eU ?_ (by assumption)) | exact HB.out)⟩

end Go.Proofs.YtomjppafgalaoaaDoor.P
