-- Written by this project's own program (wip/tools/hp.py), driving the kit's print; hand texts among it. Not trusted: Lean checks it.
-- half the indentation
import Derived.Test.YtomjppafgalaoaaDoorThin
import Derived.Test.YtomjppafgalaoaaDoorP0
import Derived.Test.YtomjppafgalaoaaDoorP21
import Derived.Test.YtomjppafgalaoaaDoorP22
namespace Go.Proofs.YtomjppafgalaoaaDoor.P
open Go.RowKit Go.Proofs.YtomjppafgalaoaaDoorW.PrintWords Go.Proofs.YtomjppafgalaoaaDoorW.PrintLast Go.Proofs.YtomjppafgalaoaaDoorW.PrintMore
attribute [local go_sem] max2_int min2_int max_two min_two max_three min_three max_four min_four   -- for this text's walks alone
set_option linter.unusedVariables false
set_option linter.unusedSimpArgs false

-- HAND: slices_Clone_string_string: with the text above

/-! ### store_own: function 19 -/
def store_own.f (l0_0 : List (S27)) (l0_1 : List ByteArray) : Option ((List (S27)) × List ByteArray) := (api_Node_31.f l0_0).bind fun bP => ((slices_Clone_string_string.f l0_1).bind fun bQ => (some (bP, bQ)))
def store_own.T1 : Bool × List (List Nat × List Nat) := (true, [([], []), ([0], [0]), ([1], [1]), ([], []), ([3], [3]), ([4, 2], [4]), ([2, 5], [2, 5]), ([6, 5, 0, 1, 2, 3, 4, 5, 6], [6])])
def store_own.B1 : List Nat := [0, 1, 3, 0, 8, 31, 63, 127]
theorem store_own.tab1 : rtab .any (opsOf Tryd.f19 1) = store_own.T1 := by kernel_rfl
theorem store_own.bits1 : waitsOk store_own.T1.2 store_own.B1 = true := by kernel_rfl
set_option maxHeartbeats 8000000 in
set_option maxRecDepth 100000 in
theorem store_own.calls (aq : Option Addr) (ar : Nat) (l0_0 : List (S27)) (au : Option Addr) (av : Nat) (l0_1 : List ByteArray) (r1 : List (S27)) (r2 : List ByteArray) (w : World) (hr0_0 : Kd.C k27 w aq l0_0.length l0_0) (hc0_0 : l0_0.length ≤ ar) (hr0_1 : Kd.C Kd.string w au l0_1.length l0_1) (hc0_1 : l0_1.length ≤ av) (h : store_own.f l0_0 l0_1 = some (r1, r2)) :
  Calls Tryd.prog 19 #[.agg #[.slice aq l0_0.length ar, .slice au l0_1.length av]] w fun e w' => ∃ v0_ v1_ : Value, e = .returned (.agg #[v0_, v1_]) ∧ Kd.R k27 27 w' w.heap.size (fun _ => True) v0_ r1 ∧ Kd.R Kd.string 9 w' w.heap.size (fun _ => True) v1_ r2 ∧ Below w.heap.size w w' := by
 have hu25 := Tryd.underlying25
 have b3 := Aside0.mk hr0_0
 have b4 := Aside0.mk hc0_0
 clear hr0_0 hc0_0
 have bZ := Aside0.mk hr0_1
 have b5 := Aside0.mk hc0_1
 clear hr0_1 hc0_1
 have HB := am (Below.refl w.heap.size w)
 have H : ((api_Node_31.f l0_0).bind fun bP => ((slices_Clone_string_string.f l0_1).bind fun bQ => (some (bP, bQ)))) = some (r1, r2) := h
 clear h
 replace H := Option.bind_eq_some_iff.mp H
 obtain ⟨bP, A20, H⟩ := H
 replace H : ((slices_Clone_string_string.f l0_1).bind fun bQ => (some (bP, bQ))) = some (r1, r2) := H
 have A2 := Aside0.mk A20
 clear A20
 replace H := Option.bind_eq_some_iff.mp H
 obtain ⟨bQ, A30, H⟩ := H
 replace H : (some (bP, bQ)) = some (r1, r2) := H
 have A3 := Aside0.mk A30
 clear A30
 simp only [Option.some.injEq, Prod.mk.injEq] at H
 obtain ⟨rfl, rfl⟩ := H
 go_enter Tryd.func19, Tryd.ntmps19
 try go_wp2_with (first | ((with_reducible refine gate_dst (N := 1) rfl ?_); refine box_event ?hg (N := 1) ?hd (cs := #[.slice aq l0_0.length ar, .slice au l0_1.length av]) (t := 25) ?hr ?_; (case hd => rfl); (case hg => rfl); (case hr => first | (go_simp; done) | (go_simp; rfl)); intro c_ hg w4 hbox hb; have aW := am (hbox); have f7 := am ((gT hg HB.out)); have f8 := am ((gT hg HB.out)); replace HB := am (sT HB.out hb); clear hb hbox hg) | ((with_reducible refine gate_dst (N := 2) rfl ?_); refine box_event ?hg (N := 2) ?hd (cs := #[.slice none 0 0, .slice none 0 0]) (t := 25) ?hr ?_; (case hd => rfl); (case hg => rfl); (case hr => first | (go_simp; done) | (go_simp; rfl)); intro bH hg w5 hbox hb; have bb := am (hbox); have f_ := am ((gT hg HB.out)); have ga := am ((gT hg HB.out)); have a8 := am ((nT aW.out hg)); have b0 := am ((mT aW.out hg)); replace aW := am (bB aW.out hb); replace HB := am (sT HB.out hb); clear hb hbox hg))
 replace aW := am (blk_drew aW.out)
 replace bb := am (blk_drew bb.out)
 replace HB := am (below_drew1 HB.out)
 refine start_ (n := 8) (S := fun w' => w'.cell? ⟨c_, 0, none⟩ = some (.slice aq l0_0.length ar) ∧ w'.cell? ⟨c_, 1, none⟩ = some (.slice au l0_1.length av)) (ds := []) (bA 8 0) (by kernel_rfl) rfl (by kernel_rfl) ⟨cT aW 0, cT aW 1⟩ (fun hHeld => ?_); refine with_tabW store_own.tab1 store_own.bits1 (fun HT_ HW_ => ?_)
 generalize w5.drew = w6 at aW bb HB hHeld ⊢
 refine pT 0 3 (bA 8 1) HT_.out ?_
 refine pT 3 6 (bA 8 9) HT_.out ?_
 refine tT 1 4 (bA 8 11) HT_.out HW_.out hHeld ?_ (hy := by rintro w' ⟨s0, s1⟩; go_simp; with_reducible rfl)
 refine tT 4 7 (bA 8 27) HT_.out HW_.out hHeld ?_ (hy := by rintro w' ⟨s0, s1⟩; go_simp; with_reducible rfl)
 refine oT 2 (bA 8 31) HT_.out fun K hK => ?_
 refine gS Tryd.func31 #[.slice aq l0_0.length ar] ?_
 with_reducible refine (api_Node_31.calls _ _ l0_0 bP _ ?side1 ?side2 A2.out).mono ?_
 (case side1 => repeat (first | exact (Kd.C_below b3.out HB.out) | (with_reducible refine Kd.C_alloc ?_ _) | (with_reducible refine Kd.C_drewN ?_ _) | (with_reducible refine Kd.C_drew ?_)))
 (case side2 => exact b4.out)
 rintro e w7 ⟨gI, rfl, ho0, hb⟩
 refine ⟨_, rfl, ?_⟩
 have b_ := am (Kd.R_lower ho0 (below_size (eT HB.out)))
 replace aW := am (bB aW.out hb)
 replace bb := am (bB bb.out hb)
 replace HB := am (sT HB.out hb)
 (try clear hb)
 (try clear hb2)
 (try clear hk)
 (try clear hi)
 (try clear ho0)
 refine hK.out _ _ ⟨cT aW 0, cT aW 1⟩ (fun hHeld => ?_)
 clear hK K
 refine mN 5 ?_
 refine oT 5 (bA 8 63) HT_.out fun K hK => ?_
 refine gS Tryd.func32 #[.slice au l0_1.length av] ?_
 with_reducible refine (slices_Clone_string_string.calls _ _ l0_1 bQ _ ?side1 ?side2 A3.out).mono ?_
 (case side1 => repeat (first | exact (Kd.C_below bZ.out HB.out) | (with_reducible refine Kd.C_alloc ?_ _) | (with_reducible refine Kd.C_drewN ?_ _) | (with_reducible refine Kd.C_drew ?_)))
 (case side2 => exact b5.out)
 rintro e w8 ⟨gJ, rfl, ho0, hb⟩
 refine ⟨_, rfl, ?_⟩
 replace b_ := am (rB b_.out hb)
 have da := am (Kd.R_lower ho0 (below_size (eT HB.out)))
 replace aW := am (bB aW.out hb)
 replace bb := am (bB bb.out hb)
 replace HB := am (sT HB.out hb)
 (try clear hb)
 (try clear hb2)
 (try clear hk)
 (try clear hi)
 (try clear ho0)
 obtain ⟨Ao9, co9, eo9⟩ := Kd.R_slice da.out
 (first | subst eo9 | (injection eo9 with f1_ f2_ f3_; have f4_ := f1_.symm; have f5_ := f3_.symm; clear f1_ f2_ f3_; subst f4_; subst f5_))
 obtain ⟨cv, cj, ck⟩ := Kd.R_slice b_.out
 (first | subst ck | (injection ck with f1_ f2_ f3_; have f4_ := f1_.symm; have f5_ := f3_.symm; clear f1_ f2_ f3_; subst f4_; subst f5_))
 refine hK.out _ _ ⟨cT aW 0, cT aW 1⟩ (fun hHeld => ?_)
 clear hK K
 refine mN 8 ?_
 refine pT 6 9 (bA 8 127) HT_.out ?_
 refine oT 7 (bA 8 255) HT_.out fun K hK => ?_
 have gK : w8.cell? ⟨bH, 0, none⟩ = some (.slice none 0 0) := cT bb 0
 have gb := blk_frozen bb.out 0
 have d6 := a8.out
 have d7 := b0.out
 have gM : w8.cell? ⟨bH, 1, none⟩ = some (.slice none 0 0) := cT bb 1
 have gc := blk_frozen bb.out 1
 have d8 := a8.out
 have d9 := b0.out
 refine skip_ (w1 := ?_) (by rfl) rfl ?_ ?_
 rotate_left
 ·go_simp
  rfl
 refine hK.out _ _ ⟨((cell_far (p := ⟨bH, _, none⟩) a8.out _).trans (((cell_far (p := ⟨bH, _, none⟩) a8.out _).trans (hHeld.1)))), ((cell_far (p := ⟨bH, _, none⟩) a8.out _).trans (((cell_far (p := ⟨bH, _, none⟩) a8.out _).trans (hHeld.2))))⟩ (fun hHeld => ?_)
 clear hK K
 refine done_ (done_of HT_.out (by kernel_rfl)) ?_
 try go_wp2
 refine bodyPost_ret (results_cell_row rfl _ _ bH 25 #[.slice cv bP.length cj, .slice Ao9 bQ.length co9] (0, 0) _ rfl (by (with_reducible repeat (first | apply bn | apply bd | apply ba)); refine blk_put (cs := #[.slice cv bP.length cj, .slice none 0 0]) ?_ 1 _ rfl; (with_reducible repeat (first | apply bn | apply bd | apply ba)); refine blk_put (cs := #[.slice none 0 0, .slice none 0 0]) ?_ 0 _ rfl; exact bT bb.out) Tryd.underlying25 rfl (by kernel_rfl)) rfl ?_
 exact ⟨_, _, by first | rfl | (simp [errW_none, errW_some] <;> rfl) | (simp [*, errW_none, errW_some] <;> rfl), by (with_reducible repeat (first | apply Kd.R_alloc | apply Kd.R_drewN | apply Kd.R_drew)); exact Kd.R_mono (Kd.R_far (p := ⟨bH, 1, none⟩) (Kd.R_far (p := ⟨bH, 0, none⟩) (Kd.R_types b_.out bb.out (by decide)) (fun _ hk => hk.2) (.slice cv bP.length cj)) (fun _ hk => hk.2) (.slice Ao9 bQ.length co9)) (fun _ hk => trivial), by (with_reducible repeat (first | apply Kd.R_alloc | apply Kd.R_drewN | apply Kd.R_drew)); exact Kd.R_mono (Kd.R_far (p := ⟨bH, 1, none⟩) (Kd.R_far (p := ⟨bH, 0, none⟩) (Kd.R_types da.out bb.out (by decide)) (fun _ hk => hk.2) (.slice cv bP.length cj)) (fun _ hk => hk.2) (.slice Ao9 bQ.length co9)) (fun _ hk => trivial), by repeat (first | (with_reducible first | exact HB.out | apply pA | apply pN | apply pD | refine eU ?_ (by assumption)) | exact HB.out)⟩

-- HAND: api_Node_20: with the text above

-- HAND: slices_Insert_string_string: with the text above

/-! ### store_Put: function 9 -/
def store_Put.f (k : Nat) (l0_0 : List (S27)) (l0_1 : List ByteArray) (a1_0 : ByteArray) (a1_1 : ByteArray) (a2 : ByteArray) : Option ((List (S27)) × List ByteArray × Int) := (store_find.f k l0_0 l0_1 a1_0 a1_1).bind fun bt264 => (if bt264.2.2 = 0 then ((store_own.f l0_0 l0_1).bind fun bt267 => (if bt264.2.1 = true then (if 0 ≤ bt264.1 then (if bt264.1 < (bt267.2.length : Int) then (some (bt267.1, (bt267.2.set (bt264.1 : Int).toNat a2), 0)) else (none)) else (none)) else ((api_Node_20.f bt267.1 bt264.1 (([(⟨a1_0, a1_1⟩ : S27)] : List (S27)))).bind fun aX => ((slices_Insert_string_string.f bt267.2 bt264.1 (([a2] : List ByteArray))).bind fun a9 => (some (aX, a9, 0)))))) else (some (l0_0, l0_1, bt264.2.2)))
theorem store_Put.mono : ∀ a0 a1 a2 a3 a4 k, LeO (store_Put.f k a0 a1 a2 a3 a4) (store_Put.f (k + 1) a0 a1 a2 a3 a4) := by
 intro a0 a1 a2 a3 a4 k
 unfold store_Put.f
 repeat' first
   | (with_reducible exact store_find.mono _ _ _ _ _)
   | (with_reducible exact LeO.refl _)
   | (with_reducible exact LeO.none _)
   | (with_reducible refine LeO.ite ?_ ?_)
   | (with_reducible refine LeO.bind ?_ (fun _ => ?_))
   | exact store_find.mono _ _ _ _ _
   | exact LeO.none _
   | refine LeO.ite ?_ ?_
   | refine LeO.bind ?_ (fun _ => ?_)
def store_Put.T8 : Bool × List (List Nat × List Nat) := (true, [([], []), ([0], [0]), ([], []), ([], []), ([3], [3]), ([1, 2, 4], [1, 2, 4]), ([], []), ([6], [6]), ([], []), ([], []), ([9], [9]), ([7, 8, 10, 5], [7, 8, 10]), ([0, 1, 2, 3, 4, 5, 6, 7], []), ([12, 5, 11, 0, 1, 2, 3, 4, 5, 6, 7], [5, 12]), ([0, 1, 2, 3, 4, 5, 6, 7, 8, 9, 10, 11, 12, 13], []), ([14, 11, 13, 0, 1, 2, 3, 4, 5, 6, 7, 8, 9, 10, 11, 12, 13], [11, 14])])
def store_Put.B8 : List Nat := [0, 1, 0, 0, 8, 31, 0, 64, 0, 0, 512, 2047, 255, 8191, 16383, 32767]
theorem store_Put.tab8 : rtab .any (opsOf Tryd.f9 8) = store_Put.T8 := by kernel_rfl
theorem store_Put.bits8 : waitsOk store_Put.T8.2 store_Put.B8 = true := by kernel_rfl
set_option maxHeartbeats 8000000 in
set_option maxRecDepth 100000 in
theorem store_Put.calls (k : Nat) (P0_0_ : Nat → Prop) (aq : Option Addr) (ar : Nat) (l0_0 : List (S27)) (P0_1_ : Nat → Prop) (au : Option Addr) (av : Nat) (l0_1 : List ByteArray) (a1_0 : ByteArray) (a1_1 : ByteArray) (a2 : ByteArray) (r1 : List (S27)) (r2 : List ByteArray) (r3 : Int) (w : World) (cl : Kd.V k27 27 w w.heap.size (fun k_ => P0_0_ k_) (.slice aq l0_0.length ar) l0_0) (cm : Kd.V Kd.string 9 w w.heap.size (fun k_ => P0_1_ k_) (.slice au l0_1.length av) l0_1) (h : store_Put.f k l0_0 l0_1 a1_0 a1_1 a2 = some (r1, r2, r3)) :
  Calls Tryd.prog 9 #[.agg #[.slice aq l0_0.length ar, .slice au l0_1.length av], .agg #[.string a1_0, .string a1_1], .string a2] w fun e w' => ∃ v0_ v1_ : Value, e = .returned (.tuple #[.agg #[v0_, v1_], .int .i64 r3]) ∧ Kd.V k27 27 w' w.heap.size (fun k_ => ((P0_0_ k_ ∨ P0_1_ k_) ∨ w.heap.size ≤ k_)) v0_ r1 ∧ Kd.V Kd.string 9 w' w.heap.size (fun k_ => ((P0_0_ k_ ∨ P0_1_ k_) ∨ w.heap.size ≤ k_)) v1_ r2 ∧ Below w.heap.size w w' := by
 have hu25 := Tryd.underlying25
 have hu27 := Tryd.underlying27
 have aa := am (show Kd.V k27 27 w w.heap.size (fun k_ => ((P0_0_ k_ ∨ P0_1_ k_) ∨ w.heap.size ≤ k_)) (.slice aq l0_0.length ar) l0_0 from Kd.V_mono cl (fun k_ hk => .inl (.inl hk)))
 have ab := am (show Kd.V Kd.string 9 w w.heap.size (fun k_ => ((P0_0_ k_ ∨ P0_1_ k_) ∨ w.heap.size ≤ k_)) (.slice au l0_1.length av) l0_1 from Kd.V_mono cm (fun k_ hk => .inl (.inr hk)))
 have HB := am (Below.refl w.heap.size w)
 have H : ((store_find.f k l0_0 l0_1 a1_0 a1_1).bind fun bt264 => (if bt264.2.2 = 0 then ((store_own.f l0_0 l0_1).bind fun bt267 => (if bt264.2.1 = true then (if 0 ≤ bt264.1 then (if bt264.1 < (bt267.2.length : Int) then (some (bt267.1, (bt267.2.set (bt264.1 : Int).toNat a2), 0)) else (none)) else (none)) else ((api_Node_20.f bt267.1 bt264.1 (([(⟨a1_0, a1_1⟩ : S27)] : List (S27)))).bind fun aX => ((slices_Insert_string_string.f bt267.2 bt264.1 (([a2] : List ByteArray))).bind fun a9 => (some (aX, a9, 0)))))) else (some (l0_0, l0_1, bt264.2.2)))) = some (r1, r2, r3) := h
 clear h
 replace H := Option.bind_eq_some_iff.mp H
 obtain ⟨⟨aF, cw, bU⟩, A40, H⟩ := H
 replace H : (if bU = 0 then ((store_own.f l0_0 l0_1).bind fun bt267 => (if cw = true then (if 0 ≤ aF then (if aF < (bt267.2.length : Int) then (some (bt267.1, (bt267.2.set (aF : Int).toNat a2), 0)) else (none)) else (none)) else ((api_Node_20.f bt267.1 aF (([(⟨a1_0, a1_1⟩ : S27)] : List (S27)))).bind fun aX => ((slices_Insert_string_string.f bt267.2 aF (([a2] : List ByteArray))).bind fun a9 => (some (aX, a9, 0)))))) else (some (l0_0, l0_1, bU))) = some (r1, r2, r3) := H
 have A4 := Aside0.mk A40
 clear A40
 by_cases c5 : bU = 0
 ·rw [if_pos c5] at H
  have fV : (bU == 0) = true := beq_iff_eq.mpr c5
  have fW : (bU != 0) = false := bne_eq_false_iff_eq.mpr c5
  clear c5
  replace H := Option.bind_eq_some_iff.mp H
  obtain ⟨⟨ax, an⟩, A60, H⟩ := H
  replace H : (if cw = true then (if 0 ≤ aF then (if aF < (an.length : Int) then (some (ax, (an.set (aF : Int).toNat a2), 0)) else (none)) else (none)) else ((api_Node_20.f ax aF (([(⟨a1_0, a1_1⟩ : S27)] : List (S27)))).bind fun aX => ((slices_Insert_string_string.f an aF (([a2] : List ByteArray))).bind fun a9 => (some (aX, a9, 0))))) = some (r1, r2, r3) := H
  have A6 := Aside0.mk A60
  clear A60
  by_cases c7 : cw = true
  ·subst c7
   have H1 : (if 0 ≤ aF then (if aF < (an.length : Int) then (some (ax, (an.set (aF : Int).toNat a2), 0)) else (none)) else (none)) = some (r1, r2, r3) := by rw [if_pos rfl] at H; exact H
   clear H
   have H := H1
   clear H1
   by_cases c8 : 0 ≤ aF
   ·rw [if_pos c8] at H
    have gN : decide (0 ≤ aF) = true := decide_eq_true c8
    clear c8
    by_cases c9 : aF < (an.length : Int)
    ·rw [if_pos c9] at H
     have gO : decide (aF < (an.length : Int)) = true := decide_eq_true c9
     clear c9
     obtain ⟨dA, b6⟩ : ∃ y_ : List ByteArray, y_ = (an.set (aF : Int).toNat a2) := ⟨_, rfl⟩
     replace H : (some (ax, dA, 0)) = some (r1, r2, r3) := by first | (rw [b6]; with_reducible exact H) | (have H2_ := (Option.bind_some _ _).symm.trans H; rw [b6]; with_reducible exact H2_) | (have H2_ := (Option.bind_some _ _).symm.trans H; with_reducible exact H2_) | with_reducible exact H | (rw [b6]; exact H) | exact H
     have Ny274 := Aside0.mk b6
     clear b6
     simp only [Option.some.injEq, Prod.mk.injEq] at H
     obtain ⟨rfl, rfl, rfl⟩ := H
     go_enter Tryd.func9, Tryd.ntmps9
     go_wp2_with (first | ((with_reducible refine gate_dst (N := 3) rfl ?_); refine box_event ?hg (N := 3) ?hd (cs := #[.slice aq l0_0.length ar, .slice au l0_1.length av]) (t := 25) ?hr ?_; (case hd => rfl); (case hg => rfl); (case hr => first | (go_simp; done) | (go_simp; rfl)); intro aw hg w11 hbox hb; replace aa := am (Kd.V_below (Kd.V_elderB (vT aa.out) aw (Nat.le_of_eq hg.symm)) hb); replace ab := am (Kd.V_below (Kd.V_elderB (vT ab.out) aw (Nat.le_of_eq hg.symm)) hb); have ac := am (hbox); have db := am ((by rw [hg]; exact (below_size (by repeat (first | (with_reducible first | exact HB.out | apply pA | apply pN | apply pD) | exact HB.out))) : w.heap.size ≤ aw)); have dc := am ((by rw [hg]; exact (below_size (by repeat (first | (with_reducible first | exact HB.out | apply pA | apply pN | apply pD) | exact HB.out))) : w.heap.size ≤ aw)); replace HB := am (below_step (by repeat (first | (with_reducible first | exact HB.out | apply pA | apply pN | apply pD) | exact HB.out)) hb); clear hb hbox hg) | ((with_reducible refine gate_dst (N := 4) rfl ?_); refine box_event ?hg (N := 4) ?hd (cs := #[.string a1_0, .string a1_1]) (t := 27) ?hr ?_; (case hd => rfl); (case hg => rfl); (case hr => first | (go_simp; done) | (go_simp; rfl)); intro ai hg w12 hbox hb; replace aa := am (Kd.V_below (Kd.V_elderB (vT aa.out) ai (Nat.le_of_eq hg.symm)) hb); replace ab := am (Kd.V_below (Kd.V_elderB (vT ab.out) ai (Nat.le_of_eq hg.symm)) hb); have ad := am (hbox); have dd := am ((by rw [hg]; exact (below_size (by repeat (first | (with_reducible first | exact HB.out | apply pA | apply pN | apply pD | refine eU ?_ (by assumption)) | exact HB.out))) : w.heap.size ≤ ai)); have de := am ((by rw [hg]; exact (below_size (by repeat (first | (with_reducible first | exact HB.out | apply pA | apply pN | apply pD | refine eU ?_ (by assumption)) | exact HB.out))) : w.heap.size ≤ ai)); have bf := am ((nT ac.out hg)); have bg := am ((mT ac.out hg)); replace ac := am (bB ac.out hb); replace HB := am (below_step (by repeat (first | (with_reducible first | exact HB.out | apply pA | apply pN | apply pD | refine eU ?_ (by assumption)) | exact HB.out)) hb); clear hb hbox hg) | ((with_reducible refine gate_dst (N := 6) rfl ?_); refine box_event ?hg (N := 6) ?hd (cs := #[.slice none 0 0, .slice none 0 0]) (t := 25) ?hr ?_; (case hd => rfl); (case hg => rfl); (case hr => first | (go_simp; done) | (go_simp; rfl)); intro al hg w13 hbox hb; replace aa := am (Kd.V_below (Kd.V_elderB (vT aa.out) al (Nat.le_of_eq hg.symm)) hb); replace ab := am (Kd.V_below (Kd.V_elderB (vT ab.out) al (Nat.le_of_eq hg.symm)) hb); have ag := am (hbox); have df := am ((by rw [hg]; exact (below_size (by repeat (first | (with_reducible first | exact HB.out | apply pA | apply pN | apply pD | refine eU ?_ (by assumption)) | exact HB.out))) : w.heap.size ≤ al)); have dg := am ((by rw [hg]; exact (below_size (by repeat (first | (with_reducible first | exact HB.out | apply pA | apply pN | apply pD | refine eU ?_ (by assumption)) | exact HB.out))) : w.heap.size ≤ al)); have bh := am ((nT ac.out hg)); have bi := am ((mT ac.out hg)); have bj := am ((nT ad.out hg)); have bk := am ((mT ad.out hg)); replace ac := am (bB ac.out hb); replace ad := am (bB ad.out hb); replace HB := am (below_step (by repeat (first | (with_reducible first | exact HB.out | apply pA | apply pN | apply pD | refine eU ?_ (by assumption)) | exact HB.out)) hb); clear hb hbox hg; have gd := bf.out; have ge := bg.out; have dB := bh.out; have dC := bi.out; have cx : w13.cell? ⟨aw, 0, none⟩ = some (.slice aq l0_0.length ar) := cT ac 0; have cy : w13.cell? ⟨aw, 1, none⟩ = some (.slice au l0_1.length av) := cT ac 1; have cz := blk_frozen ac.out 0; have cA := blk_frozen ac.out 1; have dD := bj.out; have dE := bk.out; have ca : w13.cell? ⟨ai, 0, none⟩ = some (.string a1_0) := cT ad 0; have cb : w13.cell? ⟨ai, 1, none⟩ = some (.string a1_1) := cT ad 1; have cc := blk_frozen ad.out 0; have cd := blk_frozen ad.out 1) | ((with_reducible refine gate_callee (f := 18) rfl ?_); refine gL (some 15) Tryd.func18 #[.agg #[.slice aq l0_0.length ar, .slice au l0_1.length av], .agg #[.string a1_0, .string a1_1]] ?_; (with_reducible refine (store_find.calls k _ _ l0_0 _ _ l0_1 a1_0 a1_1 aF true bU _ ?side1 ?side2 ?side3 ?side4 A4.out).mono ?_); (case side1 => repeat (first | exact (Kd.V_reads' aa.out).2.2 | (with_reducible refine Kd.C_alloc ?_ _) | (with_reducible refine Kd.C_drewN ?_ _) | (with_reducible refine Kd.C_drew ?_))); (case side2 => exact (Kd.V_reads' aa.out).2.1); (case side3 => repeat (first | exact (Kd.V_reads' ab.out).2.2 | (with_reducible refine Kd.C_alloc ?_ _) | (with_reducible refine Kd.C_drewN ?_ _) | (with_reducible refine Kd.C_drew ?_))); (case side4 => exact (Kd.V_reads' ab.out).2.1); rintro e w19 ⟨rfl, hb⟩; refine ⟨_, rfl, ?_⟩; replace aa := am (vB aa.out hb); replace ab := am (vB ab.out hb); replace ac := am (bB ac.out hb); replace ad := am (bB ad.out hb); replace ag := am (bB ag.out hb); replace HB := am (below_step (by repeat (first | (with_reducible first | exact HB.out | apply pA | apply pN | apply pD | refine eU ?_ (by assumption)) | exact HB.out)) hb); (try clear hb); (try clear hb2); (try clear hk); (try clear hi); have d_ : w19.cell? ⟨aw, 0, none⟩ = some (.slice aq l0_0.length ar) := cT ac 0; have ea : w19.cell? ⟨aw, 1, none⟩ = some (.slice au l0_1.length av) := cT ac 1; have eb := blk_frozen ac.out 0; have ec := blk_frozen ac.out 1) | ((with_reducible refine gate_callee (f := 19) rfl ?_); refine gL (some 24) Tryd.func19 #[.agg #[.slice aq l0_0.length ar, .slice au l0_1.length av]] ?_; (with_reducible refine (store_own.calls _ _ l0_0 _ _ l0_1 ax an _ ?side1 ?side2 ?side3 ?side4 A6.out).mono ?_); (case side1 => repeat (first | exact (Kd.V_reads' aa.out).2.2 | (with_reducible refine Kd.C_alloc ?_ _) | (with_reducible refine Kd.C_drewN ?_ _) | (with_reducible refine Kd.C_drew ?_))); (case side2 => exact (Kd.V_reads' aa.out).2.1); (case side3 => repeat (first | exact (Kd.V_reads' ab.out).2.2 | (with_reducible refine Kd.C_alloc ?_ _) | (with_reducible refine Kd.C_drewN ?_ _) | (with_reducible refine Kd.C_drew ?_))); (case side4 => exact (Kd.V_reads' ab.out).2.1); rintro e w21 ⟨fX, fY, rfl, ho0, ho1, hb⟩; refine ⟨_, rfl, ?_⟩; replace aa := am (Kd.V_mono (Kd.V_told (Kd.V_told (Kd.V_old (vT aa.out) hb) (Kd.R_base ho0)) (Kd.R_base ho1)) (fun _ h_ => h_.1)); replace ab := am (Kd.V_mono (Kd.V_told (Kd.V_told (Kd.V_old (vT ab.out) hb) (Kd.R_base ho0)) (Kd.R_base ho1)) (fun _ h_ => h_.1)); have aj := am (Kd.R_lower (Kd.R_newB (Kd.R_newM (M := fun k_ => (w.heap.size ≤ k_)) ho0 (below_size (by repeat (first | (with_reducible first | exact HB.out | apply pA | apply pN | apply pD | refine eU ?_ (by assumption)) | exact HB.out))) (fun k_ h_ => h_)) (g := ai) (o := .cells #[.string a1_0, .string a1_1] 27 (0, 0)) (bT ad.out)) (below_size (by repeat (first | (with_reducible first | exact HB.out | apply pA | apply pN | apply pD | refine eU ?_ (by assumption)) | exact HB.out)))); have ak := am (Kd.R_lower (Kd.R_newM (M := fun k_ => (w.heap.size ≤ k_)) ho1 (below_size (by repeat (first | (with_reducible first | exact HB.out | apply pA | apply pN | apply pD | refine eU ?_ (by assumption)) | exact HB.out))) (fun k_ h_ => h_)) (below_size (by repeat (first | (with_reducible first | exact HB.out | apply pA | apply pN | apply pD | refine eU ?_ (by assumption)) | exact HB.out)))); replace ac := am (bB ac.out hb); replace ag := am (bB ag.out hb); replace ad := am (bB ad.out hb); replace HB := am (below_step (by repeat (first | (with_reducible first | exact HB.out | apply pA | apply pN | apply pD | refine eU ?_ (by assumption)) | exact HB.out)) hb); (try clear hb); (try clear hb2); (try clear hk); (try clear hi); (try clear ho0); (try clear ho1)) | ((with_reducible refine gate_dst (N := 11) rfl ?_); refine box_event ?hg (N := 11) ?hd (cs := #[.slice none 0 0, .slice none 0 0]) (t := 25) ?hr ?_; (case hd => rfl); (case hg => rfl); (case hr => first | (go_simp; done) | (go_simp; rfl)); intro ae hg w22 hbox hb; replace aa := am (Kd.V_below (Kd.V_elderB (vT aa.out) ae (Nat.le_of_eq hg.symm)) hb); replace ab := am (Kd.V_below (Kd.V_elderB (vT ab.out) ae (Nat.le_of_eq hg.symm)) hb); replace aj := am (rB aj.out hb); replace ak := am (rB ak.out hb); have af := am (hbox); have dF := am ((by rw [hg]; exact (below_size (by repeat (first | (with_reducible first | exact HB.out | apply pA | apply pN | apply pD | refine eU ?_ (by assumption)) | exact HB.out))) : w.heap.size ≤ ae)); have dG := am ((by rw [hg]; exact (below_size (by repeat (first | (with_reducible first | exact HB.out | apply pA | apply pN | apply pD | refine eU ?_ (by assumption)) | exact HB.out))) : w.heap.size ≤ ae)); have aJ := am ((nT ac.out hg)); have bl := am ((mT ac.out hg)); have aK := am ((nT ad.out hg)); have bm := am ((mT ad.out hg)); have aG := am ((nT ag.out hg)); have bo := am ((mT ag.out hg)); replace ac := am (bB ac.out hb); replace ad := am (bB ad.out hb); replace ag := am (bB ag.out hb); replace HB := am (below_step (by repeat (first | (with_reducible first | exact HB.out | apply pA | apply pN | apply pD | refine eU ?_ (by assumption)) | exact HB.out)) hb); clear hb hbox hg; obtain ⟨bC, bD, fZ⟩ := Kd.R_slice aj.out; subst fZ; have dH := bl.out; have dI := aJ.out; have gf := bm.out; have gg := aK.out; have gh := bo.out; have gi := aG.out; have ed : w22.cell? ⟨ae, 0, none⟩ = some (.slice none 0 0) := cT af 0; have ee : w22.cell? ⟨ae, 1, none⟩ = some (.slice none 0 0) := cT af 1; have ef := blk_frozen af.out 0; have eg := blk_frozen af.out 1; obtain ⟨bV, bc, f0⟩ := Kd.R_slice ak.out; subst f0) | ((with_reducible refine gate_store (t := 25) (p := 11) rfl ?_); refine store_event (t := 25) (p := 11) (v := ?vo_w29) (w1 := ((w22.setCell ⟨ae, 0, none⟩ (.slice bC ax.length bD)).setCell ⟨ae, 1, none⟩ (.slice bV an.length bc))) ?hg ?ho ?hn ?hr ?_; (case ho => rfl); (case hg => rfl); (case hn => rfl); (case hr => first | (go_simp; done) | (go_simp; rfl)); intro w29 hw; have n0_ : Aside0 (Kd.V k27 27 w29 w.heap.size (fun k_ => ((P0_0_ k_ ∨ P0_1_ k_) ∨ w.heap.size ≤ k_) ∧ some k_ ≠ (.slice bC ax.length bD : Value).ownBlock ∧ some k_ ≠ (.slice bV an.length bc : Value).ownBlock ∧ k_ ≠ aw ∧ k_ ≠ ai ∧ k_ ≠ al ∧ k_ ≠ ae) (.slice aq l0_0.length ar) l0_0) := ⟨(by rw [hw]; exact (by (with_reducible repeat (first | apply Kd.V_alloc | apply Kd.V_drewN | apply Kd.V_drew)); exact Kd.V_mono (Kd.V_far (p := ⟨ae, 1, none⟩) (Kd.V_far (p := ⟨ae, 0, none⟩) (Kd.V_mono aa.out (fun k_ hk => (⟨hk, hk.2⟩ : _ ∧ k_ ≠ ae))) (fun _ hk => hk.2) (.slice bC ax.length bD)) (fun _ hk => hk.2) (.slice bV an.length bc)) (fun _ hk => ⟨hk.1.1.1.1.1.1.1, ⟨hk.1.1.1.2, ⟨hk.1.1.2, ⟨hk.1.1.1.1.1.1.2, ⟨hk.1.1.1.1.1.2, ⟨hk.1.1.1.1.2, hk.1.2⟩⟩⟩⟩⟩⟩)))⟩; have n1_ : Aside0 (Kd.V Kd.string 9 w29 w.heap.size (fun k_ => ((P0_0_ k_ ∨ P0_1_ k_) ∨ w.heap.size ≤ k_) ∧ some k_ ≠ (.slice bC ax.length bD : Value).ownBlock ∧ some k_ ≠ (.slice bV an.length bc : Value).ownBlock ∧ k_ ≠ aw ∧ k_ ≠ ai ∧ k_ ≠ al ∧ k_ ≠ ae) (.slice au l0_1.length av) l0_1) := ⟨(by rw [hw]; exact (by (with_reducible repeat (first | apply Kd.V_alloc | apply Kd.V_drewN | apply Kd.V_drew)); exact Kd.V_mono (Kd.V_far (p := ⟨ae, 1, none⟩) (Kd.V_far (p := ⟨ae, 0, none⟩) (Kd.V_mono ab.out (fun k_ hk => (⟨hk, hk.2⟩ : _ ∧ k_ ≠ ae))) (fun _ hk => hk.2) (.slice bC ax.length bD)) (fun _ hk => hk.2) (.slice bV an.length bc)) (fun _ hk => ⟨hk.1.1.1.1.1.1.1, ⟨hk.1.1.1.2, ⟨hk.1.1.2, ⟨hk.1.1.1.1.1.1.2, ⟨hk.1.1.1.1.1.2, ⟨hk.1.1.1.1.2, hk.1.2⟩⟩⟩⟩⟩⟩)))⟩; have n2_ : Aside0 (Kd.R k27 27 w29 w.heap.size (fun k_ => (w.heap.size ≤ k_) ∧ k_ ≠ ai) (.slice bC ax.length bD) ax) := ⟨(by rw [hw]; exact (by (with_reducible repeat (first | apply Kd.R_alloc | apply Kd.R_drewN | apply Kd.R_drew)); exact Kd.R_mono (Kd.R_far (p := ⟨ae, 1, none⟩) (Kd.R_far (p := ⟨ae, 0, none⟩) (Kd.R_types aj.out af.out (by decide)) (fun _ hk => hk.2) (.slice bC ax.length bD)) (fun _ hk => hk.2) (.slice bV an.length bc)) (fun _ hk => ⟨hk.1.1.1, hk.1.2⟩)))⟩; have n3_ : Aside0 (Kd.R Kd.string 9 w29 w.heap.size (fun k_ => (w.heap.size ≤ k_)) (.slice bV an.length bc) an) := ⟨(by rw [hw]; exact (by (with_reducible repeat (first | apply Kd.R_alloc | apply Kd.R_drewN | apply Kd.R_drew)); exact Kd.R_mono (Kd.R_far (p := ⟨ae, 1, none⟩) (Kd.R_far (p := ⟨ae, 0, none⟩) (Kd.R_types ak.out af.out (by decide)) (fun _ hk => hk.2) (.slice bC ax.length bD)) (fun _ hk => hk.2) (.slice bV an.length bc)) (fun _ hk => hk.1.1)))⟩; have n4_ : Aside0 (w29.heap[aw]? = some (.cells #[.slice aq l0_0.length ar, .slice au l0_1.length av] 25 (0, 0))) := ⟨(by rw [hw]; exact (by (with_reducible repeat (first | apply bn | apply bd | apply ba)); refine blk_far ?_ aJ.out _; (with_reducible repeat (first | apply bn | apply bd | apply ba)); refine blk_far ?_ aJ.out _; exact bT ac.out))⟩; have n5_ : Aside0 (w29.heap[ai]? = some (.cells #[.string a1_0, .string a1_1] 27 (0, 0))) := ⟨(by rw [hw]; exact (by (with_reducible repeat (first | apply bn | apply bd | apply ba)); refine blk_far ?_ aK.out _; (with_reducible repeat (first | apply bn | apply bd | apply ba)); refine blk_far ?_ aK.out _; exact bT ad.out))⟩; have n6_ : Aside0 (w29.heap[al]? = some (.cells #[.slice none 0 0, .slice none 0 0] 25 (0, 0))) := ⟨(by rw [hw]; exact (by (with_reducible repeat (first | apply bn | apply bd | apply ba)); refine blk_far ?_ aG.out _; (with_reducible repeat (first | apply bn | apply bd | apply ba)); refine blk_far ?_ aG.out _; exact bT ag.out))⟩; have n7_ : Aside0 (w29.heap[ae]? = some (.cells #[.slice bC ax.length bD, .slice bV an.length bc] 25 (0, 0))) := ⟨(by rw [hw]; exact (by (with_reducible repeat (first | apply bn | apply bd | apply ba)); refine blk_put (cs := #[.slice bC ax.length bD, .slice none 0 0]) ?_ 1 _ rfl; (with_reducible repeat (first | apply bn | apply bd | apply ba)); refine blk_put (cs := #[.slice none 0 0, .slice none 0 0]) ?_ 0 _ rfl; exact bT af.out))⟩; have n8_ : Aside0 (Below w.heap.size w w29) := ⟨(by rw [hw]; exact (by repeat (first | (with_reducible first | exact HB.out | apply pA | apply pN | apply pD | refine eU ?_ (by assumption)) | exact HB.out)))⟩; clear hw aa ab aj ak ac ad ag af HB; have aa := n0_; have ab := n1_; have aj := n2_; have ak := n3_; have ac := n4_; have ad := n5_; have ag := n6_; have af := n7_; have HB := n8_; clear n0_ n1_ n2_ n3_ n4_ n5_ n6_ n7_ n8_; have eh : w29.cell? ⟨ae, 0, none⟩ = some (.slice bC ax.length bD) := cT af 0; have ei : w29.cell? ⟨ae, 1, none⟩ = some (.slice bV an.length bc) := cT af 1; have ej := blk_frozen af.out 0; have ek := blk_frozen af.out 1; have p10 : 0 ≤ (aF : Int) := of_decide_eq_true (by first | (with_reducible assumption) | assumption); have q10 : (aF : Int) < ((an.length : Int) : Int) := of_decide_eq_true (by first | (with_reducible assumption) | assumption); obtain ⟨go10, cj, ck, dJ, gl10, cl10, HG10⟩ := Kd.R_form ak.out (by omega); (first | cases ck | (injection ck with ea_ en_ ec_; (first | subst ea_ | (injection ea_ with ea_; subst ea_)); subst ec_; clear en_)); have GB10 := Aside0.mk dJ; have GG10 := Aside0.mk HG10; clear dJ gl10 HG10; obtain ⟨f1, f2⟩ := Kd.R_celln (⟨#[]⟩ : ByteArray) ak.out (aF : Int) p10 q10; replace p10 := eq_true p10; replace q10 := eq_true q10; obtain ⟨gj, hz31_⟩ := Kd.R_celln (⟨#[]⟩ : ByteArray) ak.out (aF : Int) (of_decide_eq_true (by first | (with_reducible assumption) | assumption)) (of_decide_eq_true (by first | (with_reducible assumption) | assumption)); have HP31 := Kd.R_putg ak.out (aF : Int) a2) | ((with_reducible refine gate_store (t := 9) (p := 30) rfl ?_); refine store_event (t := 9) (p := 30) (v := ?vo_w32) (w1 := (w29.setCell ⟨go10, (aF : Int).toNat, none⟩ (.string a2))) ?hg ?ho ?hn ?hr ?_; (case ho => rfl); (case hg => rfl); (case hn => rfl); (case hr => first | (go_simp; done) | (go_simp; rfl)); intro w32 hw; have hg : w29.grownBy w32 (some go10) := (by rw [hw]; exact HP31.2); have hp_ : Kd.R Kd.string 9 w32 w.heap.size (fun k_ => (w.heap.size ≤ k_)) (.slice (some ⟨go10, 0, none⟩) an.length bc) dA := (by rw [hw, Ny274.out]; exact HP31.1); clear HP31; replace aa := am (Kd.V_afterv (v := (.slice (some ⟨go10, 0, none⟩) an.length bc)) (v1 := (.slice (some ⟨go10, 0, none⟩) an.length bc)) (ok := (fun k_ => ((P0_0_ k_ ∨ P0_1_ k_) ∨ w.heap.size ≤ k_) ∧ some k_ ≠ (.slice bC ax.length bD : Value).ownBlock ∧ k_ ≠ aw ∧ k_ ≠ ai ∧ k_ ≠ al ∧ k_ ≠ ae)) (by (with_reducible repeat (first | apply Kd.V_alloc | apply Kd.V_drewN | apply Kd.V_drew)); exact Kd.V_mono aa.out (fun _ hk => ⟨⟨hk.1, ⟨hk.2.1, ⟨hk.2.2.2.1, ⟨hk.2.2.2.2.1, ⟨hk.2.2.2.2.2.1, hk.2.2.2.2.2.2⟩⟩⟩⟩⟩, hk.2.2.1⟩)) hg (.inl rfl)); replace ab := am (Kd.V_afterv (v := (.slice (some ⟨go10, 0, none⟩) an.length bc)) (v1 := (.slice (some ⟨go10, 0, none⟩) an.length bc)) (ok := (fun k_ => ((P0_0_ k_ ∨ P0_1_ k_) ∨ w.heap.size ≤ k_) ∧ some k_ ≠ (.slice bC ax.length bD : Value).ownBlock ∧ k_ ≠ aw ∧ k_ ≠ ai ∧ k_ ≠ al ∧ k_ ≠ ae)) (by (with_reducible repeat (first | apply Kd.V_alloc | apply Kd.V_drewN | apply Kd.V_drew)); exact Kd.V_mono ab.out (fun _ hk => ⟨⟨hk.1, ⟨hk.2.1, ⟨hk.2.2.2.1, ⟨hk.2.2.2.2.1, ⟨hk.2.2.2.2.2.1, hk.2.2.2.2.2.2⟩⟩⟩⟩⟩, hk.2.2.1⟩)) hg (.inl rfl)); replace ac := am (blk_grown (g := aw) (o := .cells #[.slice aq l0_0.length ar, .slice au l0_1.length av] 25 (0, 0)) (bT ac.out) hg (Kd.R_ne ak.out ac.out (by decide))); replace ad := am (blk_grown (g := ai) (o := .cells #[.string a1_0, .string a1_1] 27 (0, 0)) (bT ad.out) hg (Kd.R_ne ak.out ad.out (by decide))); replace ag := am (blk_grown (g := al) (o := .cells #[.slice none 0 0, .slice none 0 0] 25 (0, 0)) (bT ag.out) hg (Kd.R_ne ak.out ag.out (by decide))); replace aj := am (Kd.R_over' (v := (.slice (some ⟨go10, 0, none⟩) an.length bc)) (rT aj.out) (Kd.R_typed ak.out) (by decide) hg); replace af := am (blk_grown (g := ae) (o := .cells #[.slice bC ax.length bD, .slice (some ⟨go10, 0, none⟩) an.length bc] 25 (0, 0)) (bT af.out) hg (Kd.R_ne ak.out af.out (by decide))); replace HB := am ((by rw [hw]; exact below_set (HB.out) GB10.out : Below w.heap.size w w32)); replace ak := am (hp_); clear hg hw hp_; have el : w32.cell? ⟨ae, 0, none⟩ = some (.slice bC ax.length bD) := cT af 0; have em : w32.cell? ⟨ae, 1, none⟩ = some (.slice (some ⟨go10, 0, none⟩) an.length bc) := cT af 1; have en := blk_frozen af.out 0; have eo := blk_frozen af.out 1; have ep : w32.cell? ⟨al, 0, none⟩ = some (.slice none 0 0) := cT ag 0; have eq : w32.cell? ⟨al, 1, none⟩ = some (.slice none 0 0) := cT ag 1; have er := blk_frozen ag.out 0; have es := blk_frozen ag.out 1))
     refine bodyPost_ret (results_ct rfl _ _ al 25 #[.slice bC ax.length bD, .slice (some ⟨go10, 0, none⟩) an.length bc] (0, 0) _ rfl (by (with_reducible repeat (first | apply bn | apply bd | apply ba)); refine blk_put (cs := #[.slice bC ax.length bD, .slice none 0 0]) ?_ 1 _ rfl; (with_reducible repeat (first | apply bn | apply bd | apply ba)); refine blk_put (cs := #[.slice none 0 0, .slice none 0 0]) ?_ 0 _ rfl; exact bT ag.out) Tryd.underlying25 rfl (by kernel_rfl)) rfl ?_
     exact ⟨_, _, by first | rfl | (simp [errW_none, errW_some] <;> rfl) | (simp [*, errW_none, errW_some] <;> rfl), Kd.V_mono (Kd.R_V (by (with_reducible repeat (first | apply Kd.R_alloc | apply Kd.R_drewN | apply Kd.R_drew)); exact Kd.R_mono (Kd.R_far (p := ⟨al, 1, none⟩) (Kd.R_far (p := ⟨al, 0, none⟩) (Kd.R_types aj.out ag.out (by decide)) (fun _ hk => hk.2) (.slice bC ax.length bD)) (fun _ hk => hk.2) (.slice (some ⟨go10, 0, none⟩) an.length bc)) (fun _ hk => hk.1.1))) (fun k_ hk => by first | exact ⟨(.inr (hk.1)), hk.2⟩ | exact (.inr (hk))), Kd.V_mono (Kd.R_V (by (with_reducible repeat (first | apply Kd.R_alloc | apply Kd.R_drewN | apply Kd.R_drew)); exact Kd.R_mono (Kd.R_far (p := ⟨al, 1, none⟩) (Kd.R_far (p := ⟨al, 0, none⟩) (Kd.R_types ak.out ag.out (by decide)) (fun _ hk => hk.2) (.slice bC ax.length bD)) (fun _ hk => hk.2) (.slice (some ⟨go10, 0, none⟩) an.length bc)) (fun _ hk => hk.1))) (fun k_ hk => by first | exact ⟨(.inr (hk.1)), hk.2⟩ | exact (.inr (hk))), by repeat (first | (with_reducible first | exact HB.out | apply pA | apply pN | apply pD | refine eU ?_ (by assumption)) | exact HB.out)⟩
    ·rw [if_neg c9] at H
     exact absurd H (by simp)
   ·rw [if_neg c8] at H
    exact absurd H (by simp)
  ·replace c7 := Bool.eq_false_iff.mpr c7
   subst c7
   have H1 : ((api_Node_20.f ax aF (([(⟨a1_0, a1_1⟩ : S27)] : List (S27)))).bind fun aX => ((slices_Insert_string_string.f an aF (([a2] : List ByteArray))).bind fun a9 => (some (aX, a9, 0)))) = some (r1, r2, r3) := by rw [if_neg (show ¬ (false = true) by decide)] at H; exact H
   clear H
   have H := H1
   clear H1
   obtain ⟨be, b7⟩ : ∃ y_ : List (S27), y_ = (([(⟨a1_0, a1_1⟩ : S27)] : List (S27))) := ⟨_, rfl⟩
   replace H : ((api_Node_20.f ax aF be).bind fun aX => ((slices_Insert_string_string.f an aF (([a2] : List ByteArray))).bind fun a9 => (some (aX, a9, 0)))) = some (r1, r2, r3) := by first | (rw [b7]; with_reducible exact H) | (have H2_ := (Option.bind_some _ _).symm.trans H; rw [b7]; with_reducible exact H2_) | (have H2_ := (Option.bind_some _ _).symm.trans H; with_reducible exact H2_) | with_reducible exact H | (rw [b7]; exact H) | exact H
   have Ny275 := Aside0.mk b7
   clear b7
   replace H := Option.bind_eq_some_iff.mp H
   obtain ⟨aX, dK, H⟩ := H
   replace H : ((slices_Insert_string_string.f an aF (([a2] : List ByteArray))).bind fun a9 => (some (aX, a9, 0))) = some (r1, r2, r3) := H
   have A35 := Aside0.mk dK
   clear dK
   obtain ⟨b8, b9⟩ : ∃ y_ : List ByteArray, y_ = (([a2] : List ByteArray)) := ⟨_, rfl⟩
   replace H : ((slices_Insert_string_string.f an aF b8).bind fun a9 => (some (aX, a9, 0))) = some (r1, r2, r3) := by first | (rw [b9]; with_reducible exact H) | (have H2_ := (Option.bind_some _ _).symm.trans H; rw [b9]; with_reducible exact H2_) | (have H2_ := (Option.bind_some _ _).symm.trans H; with_reducible exact H2_) | with_reducible exact H | (rw [b9]; exact H) | exact H
   have Ny281 := Aside0.mk b9
   clear b9
   replace H := Option.bind_eq_some_iff.mp H
   obtain ⟨a9, dL, H⟩ := H
   replace H : (some (aX, a9, 0)) = some (r1, r2, r3) := H
   have A36 := Aside0.mk dL
   clear dL
   simp only [Option.some.injEq, Prod.mk.injEq] at H
   obtain ⟨rfl, rfl, rfl⟩ := H
   go_enter Tryd.func9, Tryd.ntmps9
   try go_wp2_with (first | ((with_reducible refine gate_dst (N := 3) rfl ?_); refine box_event ?hg (N := 3) ?hd (cs := #[.slice aq l0_0.length ar, .slice au l0_1.length av]) (t := 25) ?hr ?_; (case hd => rfl); (case hg => rfl); (case hr => first | (go_simp; done) | (go_simp; rfl)); intro aw hg w37 hbox hb; replace aa := am (Kd.V_below (Kd.V_elderB (vT aa.out) aw (Nat.le_of_eq hg.symm)) hb); replace ab := am (Kd.V_below (Kd.V_elderB (vT ab.out) aw (Nat.le_of_eq hg.symm)) hb); have ac := am (hbox); have db := am ((gT hg HB.out)); have dc := am ((gT hg HB.out)); replace HB := am (sT HB.out hb); clear hb hbox hg) | ((with_reducible refine gate_dst (N := 4) rfl ?_); refine box_event ?hg (N := 4) ?hd (cs := #[.string a1_0, .string a1_1]) (t := 27) ?hr ?_; (case hd => rfl); (case hg => rfl); (case hr => first | (go_simp; done) | (go_simp; rfl)); intro ai hg w38 hbox hb; replace aa := am (Kd.V_below (Kd.V_elderB (vT aa.out) ai (Nat.le_of_eq hg.symm)) hb); replace ab := am (Kd.V_below (Kd.V_elderB (vT ab.out) ai (Nat.le_of_eq hg.symm)) hb); have ad := am (hbox); have dd := am ((gT hg HB.out)); have de := am ((gT hg HB.out)); have bf := am ((nT ac.out hg)); have bg := am ((mT ac.out hg)); replace ac := am (bB ac.out hb); replace HB := am (sT HB.out hb); clear hb hbox hg) | ((with_reducible refine gate_dst (N := 6) rfl ?_); refine box_event ?hg (N := 6) ?hd (cs := #[.slice none 0 0, .slice none 0 0]) (t := 25) ?hr ?_; (case hd => rfl); (case hg => rfl); (case hr => first | (go_simp; done) | (go_simp; rfl)); intro al hg w39 hbox hb; replace aa := am (Kd.V_below (Kd.V_elderB (vT aa.out) al (Nat.le_of_eq hg.symm)) hb); replace ab := am (Kd.V_below (Kd.V_elderB (vT ab.out) al (Nat.le_of_eq hg.symm)) hb); have ag := am (hbox); have df := am ((gT hg HB.out)); have dg := am ((gT hg HB.out)); have bh := am ((nT ac.out hg)); have bi := am ((mT ac.out hg)); have bj := am ((nT ad.out hg)); have bk := am ((mT ad.out hg)); replace ac := am (bB ac.out hb); replace ad := am (bB ad.out hb); replace HB := am (sT HB.out hb); clear hb hbox hg; have dM := bf.out; have dN := bg.out; have dP := bh.out; have dQ := bi.out; have cB : w39.cell? ⟨aw, 0, none⟩ = some (.slice aq l0_0.length ar) := cT ac 0; have cC : w39.cell? ⟨aw, 1, none⟩ = some (.slice au l0_1.length av) := cT ac 1; have cD := blk_frozen ac.out 0; have cE := blk_frozen ac.out 1; have dR := bj.out; have dS := bk.out; have cF : w39.cell? ⟨ai, 0, none⟩ = some (.string a1_0) := cT ad 0; have cG : w39.cell? ⟨ai, 1, none⟩ = some (.string a1_1) := cT ad 1; have cH := blk_frozen ad.out 0; have cI := blk_frozen ad.out 1) | ((with_reducible refine gate_callee (f := 18) rfl ?_); refine gL (some 15) Tryd.func18 #[.agg #[.slice aq l0_0.length ar, .slice au l0_1.length av], .agg #[.string a1_0, .string a1_1]] ?_; (with_reducible refine (store_find.calls k _ _ l0_0 _ _ l0_1 a1_0 a1_1 aF false bU _ ?side1 ?side2 ?side3 ?side4 A4.out).mono ?_); (case side1 => repeat (first | exact (Kd.V_reads' aa.out).2.2 | (with_reducible refine Kd.C_alloc ?_ _) | (with_reducible refine Kd.C_drewN ?_ _) | (with_reducible refine Kd.C_drew ?_))); (case side2 => exact (Kd.V_reads' aa.out).2.1); (case side3 => repeat (first | exact (Kd.V_reads' ab.out).2.2 | (with_reducible refine Kd.C_alloc ?_ _) | (with_reducible refine Kd.C_drewN ?_ _) | (with_reducible refine Kd.C_drew ?_))); (case side4 => exact (Kd.V_reads' ab.out).2.1); rintro e w45 ⟨rfl, hb⟩; refine ⟨_, rfl, ?_⟩; replace aa := am (vB aa.out hb); replace ab := am (vB ab.out hb); replace ac := am (bB ac.out hb); replace ad := am (bB ad.out hb); replace ag := am (bB ag.out hb); replace HB := am (sT HB.out hb); (try clear hb); (try clear hb2); (try clear hk); (try clear hi); have cJ : w45.cell? ⟨aw, 0, none⟩ = some (.slice aq l0_0.length ar) := cT ac 0; have cK : w45.cell? ⟨aw, 1, none⟩ = some (.slice au l0_1.length av) := cT ac 1; have cL := blk_frozen ac.out 0; have cM := blk_frozen ac.out 1) | ((with_reducible refine gate_callee (f := 19) rfl ?_); refine gL (some 24) Tryd.func19 #[.agg #[.slice aq l0_0.length ar, .slice au l0_1.length av]] ?_; (with_reducible refine (store_own.calls _ _ l0_0 _ _ l0_1 ax an _ ?side1 ?side2 ?side3 ?side4 A6.out).mono ?_); (case side1 => repeat (first | exact (Kd.V_reads' aa.out).2.2 | (with_reducible refine Kd.C_alloc ?_ _) | (with_reducible refine Kd.C_drewN ?_ _) | (with_reducible refine Kd.C_drew ?_))); (case side2 => exact (Kd.V_reads' aa.out).2.1); (case side3 => repeat (first | exact (Kd.V_reads' ab.out).2.2 | (with_reducible refine Kd.C_alloc ?_ _) | (with_reducible refine Kd.C_drewN ?_ _) | (with_reducible refine Kd.C_drew ?_))); (case side4 => exact (Kd.V_reads' ab.out).2.1); rintro e w47 ⟨fX, fY, rfl, ho0, ho1, hb⟩; refine ⟨_, rfl, ?_⟩; replace aa := am (Kd.V_mono (Kd.V_told (Kd.V_told (Kd.V_old (vT aa.out) hb) (Kd.R_base ho0)) (Kd.R_base ho1)) (fun _ h_ => h_.1)); replace ab := am (Kd.V_mono (Kd.V_told (Kd.V_told (Kd.V_old (vT ab.out) hb) (Kd.R_base ho0)) (Kd.R_base ho1)) (fun _ h_ => h_.1)); have aj := am (Kd.R_lower (Kd.R_newB (Kd.R_newM (M := fun k_ => (w.heap.size ≤ k_)) ho0 (below_size (eT HB.out)) (fun k_ h_ => h_)) (g := ai) (o := .cells #[.string a1_0, .string a1_1] 27 (0, 0)) (bT ad.out)) (below_size (eT HB.out))); have ak := am (Kd.R_lower (Kd.R_newM (M := fun k_ => (w.heap.size ≤ k_)) ho1 (below_size (eT HB.out)) (fun k_ h_ => h_)) (below_size (eT HB.out))); replace ac := am (bB ac.out hb); replace ag := am (bB ag.out hb); replace ad := am (bB ad.out hb); replace HB := am (sT HB.out hb); (try clear hb); (try clear hb2); (try clear hk); (try clear hi); (try clear ho0); (try clear ho1)) | ((with_reducible refine gate_dst (N := 11) rfl ?_); refine box_event ?hg (N := 11) ?hd (cs := #[.slice none 0 0, .slice none 0 0]) (t := 25) ?hr ?_; (case hd => rfl); (case hg => rfl); (case hr => first | (go_simp; done) | (go_simp; rfl)); intro ae hg w48 hbox hb; replace aa := am (Kd.V_below (Kd.V_elderB (vT aa.out) ae (Nat.le_of_eq hg.symm)) hb); replace ab := am (Kd.V_below (Kd.V_elderB (vT ab.out) ae (Nat.le_of_eq hg.symm)) hb); replace aj := am (rB aj.out hb); replace ak := am (rB ak.out hb); have af := am (hbox); have dF := am ((gT hg HB.out)); have dG := am ((gT hg HB.out)); have aJ := am ((nT ac.out hg)); have bl := am ((mT ac.out hg)); have aK := am ((nT ad.out hg)); have bm := am ((mT ad.out hg)); have aG := am ((nT ag.out hg)); have bo := am ((mT ag.out hg)); replace ac := am (bB ac.out hb); replace ad := am (bB ad.out hb); replace ag := am (bB ag.out hb); replace HB := am (sT HB.out hb); clear hb hbox hg; obtain ⟨aL, aM, f3⟩ := Kd.R_slice aj.out; subst f3; have gk := bl.out; have gl := aJ.out; have dT := bm.out; have dU := aK.out; have dV := bo.out; have dW := aG.out; have cN : w48.cell? ⟨ae, 0, none⟩ = some (.slice none 0 0) := cT af 0; have cO : w48.cell? ⟨ae, 1, none⟩ = some (.slice none 0 0) := cT af 1; have cP := blk_frozen af.out 0; have cQ := blk_frozen af.out 1; obtain ⟨aD, aE, f4⟩ := Kd.R_slice ak.out; subst f4))
   have n0_ : Aside0 (Kd.V k27 27 ((w48.setCell ⟨ae, 0, none⟩ (.slice aL ax.length aM)).setCell ⟨ae, 1, none⟩ (.slice aD an.length aE)) w.heap.size (fun k_ => ((P0_0_ k_ ∨ P0_1_ k_) ∨ w.heap.size ≤ k_) ∧ some k_ ≠ (.slice aL ax.length aM : Value).ownBlock ∧ some k_ ≠ (.slice aD an.length aE : Value).ownBlock ∧ k_ ≠ aw ∧ k_ ≠ ai ∧ k_ ≠ al ∧ k_ ≠ ae) (.slice aq l0_0.length ar) l0_0) := ⟨by (with_reducible repeat (first | apply Kd.V_alloc | apply Kd.V_drewN | apply Kd.V_drew)); exact Kd.V_mono (Kd.V_far (p := ⟨ae, 1, none⟩) (Kd.V_far (p := ⟨ae, 0, none⟩) (Kd.V_mono aa.out (fun k_ hk => (⟨hk, hk.2⟩ : _ ∧ k_ ≠ ae))) (fun _ hk => hk.2) (.slice aL ax.length aM)) (fun _ hk => hk.2) (.slice aD an.length aE)) (fun _ hk => ⟨hk.1.1.1.1.1.1.1, ⟨hk.1.1.1.2, ⟨hk.1.1.2, ⟨hk.1.1.1.1.1.1.2, ⟨hk.1.1.1.1.1.2, ⟨hk.1.1.1.1.2, hk.1.2⟩⟩⟩⟩⟩⟩)⟩
   have n1_ : Aside0 (Kd.V Kd.string 9 ((w48.setCell ⟨ae, 0, none⟩ (.slice aL ax.length aM)).setCell ⟨ae, 1, none⟩ (.slice aD an.length aE)) w.heap.size (fun k_ => ((P0_0_ k_ ∨ P0_1_ k_) ∨ w.heap.size ≤ k_) ∧ some k_ ≠ (.slice aL ax.length aM : Value).ownBlock ∧ some k_ ≠ (.slice aD an.length aE : Value).ownBlock ∧ k_ ≠ aw ∧ k_ ≠ ai ∧ k_ ≠ al ∧ k_ ≠ ae) (.slice au l0_1.length av) l0_1) := ⟨by (with_reducible repeat (first | apply Kd.V_alloc | apply Kd.V_drewN | apply Kd.V_drew)); exact Kd.V_mono (Kd.V_far (p := ⟨ae, 1, none⟩) (Kd.V_far (p := ⟨ae, 0, none⟩) (Kd.V_mono ab.out (fun k_ hk => (⟨hk, hk.2⟩ : _ ∧ k_ ≠ ae))) (fun _ hk => hk.2) (.slice aL ax.length aM)) (fun _ hk => hk.2) (.slice aD an.length aE)) (fun _ hk => ⟨hk.1.1.1.1.1.1.1, ⟨hk.1.1.1.2, ⟨hk.1.1.2, ⟨hk.1.1.1.1.1.1.2, ⟨hk.1.1.1.1.1.2, ⟨hk.1.1.1.1.2, hk.1.2⟩⟩⟩⟩⟩⟩)⟩
   have n2_ : Aside0 (Kd.R k27 27 ((w48.setCell ⟨ae, 0, none⟩ (.slice aL ax.length aM)).setCell ⟨ae, 1, none⟩ (.slice aD an.length aE)) w.heap.size (fun k_ => (w.heap.size ≤ k_) ∧ k_ ≠ ai) (.slice aL ax.length aM) ax) := ⟨by (with_reducible repeat (first | apply Kd.R_alloc | apply Kd.R_drewN | apply Kd.R_drew)); exact Kd.R_mono (Kd.R_far (p := ⟨ae, 1, none⟩) (Kd.R_far (p := ⟨ae, 0, none⟩) (Kd.R_types aj.out af.out (by decide)) (fun _ hk => hk.2) (.slice aL ax.length aM)) (fun _ hk => hk.2) (.slice aD an.length aE)) (fun _ hk => ⟨hk.1.1.1, hk.1.2⟩)⟩
   have n3_ : Aside0 (Kd.R Kd.string 9 ((w48.setCell ⟨ae, 0, none⟩ (.slice aL ax.length aM)).setCell ⟨ae, 1, none⟩ (.slice aD an.length aE)) w.heap.size (fun k_ => (w.heap.size ≤ k_)) (.slice aD an.length aE) an) := ⟨by (with_reducible repeat (first | apply Kd.R_alloc | apply Kd.R_drewN | apply Kd.R_drew)); exact Kd.R_mono (Kd.R_far (p := ⟨ae, 1, none⟩) (Kd.R_far (p := ⟨ae, 0, none⟩) (Kd.R_types ak.out af.out (by decide)) (fun _ hk => hk.2) (.slice aL ax.length aM)) (fun _ hk => hk.2) (.slice aD an.length aE)) (fun _ hk => hk.1.1)⟩
   have n4_ : Aside0 (((w48.setCell ⟨ae, 0, none⟩ (.slice aL ax.length aM)).setCell ⟨ae, 1, none⟩ (.slice aD an.length aE)).heap[aw]? = some (.cells #[.slice aq l0_0.length ar, .slice au l0_1.length av] 25 (0, 0))) := ⟨by (with_reducible repeat (first | apply bn | apply bd | apply ba)); refine blk_far ?_ aJ.out _; (with_reducible repeat (first | apply bn | apply bd | apply ba)); refine blk_far ?_ aJ.out _; exact bT ac.out⟩
   have n5_ : Aside0 (((w48.setCell ⟨ae, 0, none⟩ (.slice aL ax.length aM)).setCell ⟨ae, 1, none⟩ (.slice aD an.length aE)).heap[ai]? = some (.cells #[.string a1_0, .string a1_1] 27 (0, 0))) := ⟨by (with_reducible repeat (first | apply bn | apply bd | apply ba)); refine blk_far ?_ aK.out _; (with_reducible repeat (first | apply bn | apply bd | apply ba)); refine blk_far ?_ aK.out _; exact bT ad.out⟩
   have n6_ : Aside0 (((w48.setCell ⟨ae, 0, none⟩ (.slice aL ax.length aM)).setCell ⟨ae, 1, none⟩ (.slice aD an.length aE)).heap[al]? = some (.cells #[.slice none 0 0, .slice none 0 0] 25 (0, 0))) := ⟨by (with_reducible repeat (first | apply bn | apply bd | apply ba)); refine blk_far ?_ aG.out _; (with_reducible repeat (first | apply bn | apply bd | apply ba)); refine blk_far ?_ aG.out _; exact bT ag.out⟩
   have n7_ : Aside0 (((w48.setCell ⟨ae, 0, none⟩ (.slice aL ax.length aM)).setCell ⟨ae, 1, none⟩ (.slice aD an.length aE)).heap[ae]? = some (.cells #[.slice aL ax.length aM, .slice aD an.length aE] 25 (0, 0))) := ⟨by (with_reducible repeat (first | apply bn | apply bd | apply ba)); refine blk_put (cs := #[.slice aL ax.length aM, .slice none 0 0]) ?_ 1 _ rfl; (with_reducible repeat (first | apply bn | apply bd | apply ba)); refine blk_put (cs := #[.slice none 0 0, .slice none 0 0]) ?_ 0 _ rfl; exact bT af.out⟩
   have n8_ : Aside0 (Below w.heap.size w ((w48.setCell ⟨ae, 0, none⟩ (.slice aL ax.length aM)).setCell ⟨ae, 1, none⟩ (.slice aD an.length aE))) := ⟨by repeat (first | (with_reducible first | exact HB.out | apply pA | apply pN | apply pD | refine eU ?_ (by assumption)) | exact HB.out)⟩
   (try clear aa)
   (try clear ab)
   (try clear aj)
   (try clear ak)
   (try clear ac)
   (try clear ad)
   (try clear ag)
   (try clear af)
   (try clear HB)
   generalize ((w48.setCell ⟨ae, 0, none⟩ (.slice aL ax.length aM)).setCell ⟨ae, 1, none⟩ (.slice aD an.length aE)) = w55 at n0_ n1_ n2_ n3_ n4_ n5_ n6_ n7_ n8_ ⊢
   have aa := n0_
   have ab := n1_
   have aj := n2_
   have ak := n3_
   have ac := n4_
   have ad := n5_
   have ag := n6_
   have af := n7_
   have HB := n8_
   clear n0_ n1_ n2_ n3_ n4_ n5_ n6_ n7_ n8_
   replace aa := am (Kd.V_drew aa.out)
   replace ab := am (Kd.V_drew ab.out)
   replace aj := am (Kd.R_drew aj.out)
   replace ak := am (Kd.R_drew ak.out)
   replace ac := am (blk_drew ac.out)
   replace ad := am (blk_drew ad.out)
   replace ag := am (blk_drew ag.out)
   replace af := am (blk_drew af.out)
   replace HB := am (below_drew1 HB.out)
   refine start_ (n := 16) (S := fun w' => w'.cell? ⟨ae, 0, none⟩ = some (.slice aL ax.length aM) ∧ w'.cell? ⟨ae, 1, none⟩ = some (.slice aD an.length aE) ∧ w'.cell? ⟨ai, 0, none⟩ = some (.string a1_0) ∧ w'.cell? ⟨ai, 1, none⟩ = some (.string a1_1)) (ds := [13, 15]) (bA 16 0) (by kernel_rfl) rfl (by kernel_rfl) ⟨cT af 0, cT af 1, cT ad 0, cT ad 1⟩ (fun hHeld => ?_); refine with_tabW store_Put.tab8 store_Put.bits8 (fun HT_ HW_ => ?_)
   generalize w55.drew = w56 at aa ab aj ak ac ad ag af HB hHeld ⊢
   refine pT 0 32 (bA 16 1) HT_.out ?_
   refine pT 2 34 (bA 16 5) HT_.out ?_
   refine pT 6 38 (bA 16 69) HT_.out ?_
   refine pT 8 40 (bA 16 325) HT_.out ?_
   refine pT 9 41 (bA 16 837) HT_.out ?_
   refine tT 1 33 (bA 16 839) HT_.out HW_.out hHeld ?_ (hy := by rintro w' ⟨s0, s1, s2, s3⟩; go_simp; with_reducible rfl)
   refine tT 3 35 (bA 16 847) HT_.out HW_.out hHeld ?_ (hy := by rintro w' ⟨s0, s1, s2, s3⟩; go_simp; with_reducible rfl)
   refine tT 7 39 (bA 16 975) HT_.out HW_.out hHeld ?_ (hy := by rintro w' ⟨s0, s1, s2, s3⟩; go_simp; with_reducible rfl)
   refine join_ (σ := Value × Value × Value) 4 (bA 16 6143) (fun s_ => [(36, s_.1), (37, s_.2.1), (42, s_.2.2), (44, .pointer (some ⟨ae, 0, none⟩))]) (fun s_ w' => (w'.cell? ⟨ae, 0, none⟩ = some (.slice aL ax.length aM) ∧ w'.cell? ⟨ae, 1, none⟩ = some (.slice aD an.length aE) ∧ w'.cell? ⟨ai, 0, none⟩ = some (.string a1_0) ∧ w'.cell? ⟨ai, 1, none⟩ = some (.string a1_1)) ∧ (Kd.V k27 27 w' w.heap.size (fun k_ => ((P0_0_ k_ ∨ P0_1_ k_) ∨ w.heap.size ≤ k_) ∧ some k_ ≠ (.slice aD an.length aE : Value).ownBlock ∧ some k_ ≠ (s_.1 : Value).ownBlock ∧ some k_ ≠ (s_.2.1 : Value).ownBlock ∧ some k_ ≠ (s_.2.2 : Value).ownBlock ∧ k_ ≠ aw ∧ k_ ≠ ai ∧ k_ ≠ al ∧ k_ ≠ ae) (.slice aq l0_0.length ar) l0_0) ∧ (Kd.V Kd.string 9 w' w.heap.size (fun k_ => ((P0_0_ k_ ∨ P0_1_ k_) ∨ w.heap.size ≤ k_) ∧ some k_ ≠ (.slice aD an.length aE : Value).ownBlock ∧ some k_ ≠ (s_.1 : Value).ownBlock ∧ some k_ ≠ (s_.2.1 : Value).ownBlock ∧ some k_ ≠ (s_.2.2 : Value).ownBlock ∧ k_ ≠ aw ∧ k_ ≠ ai ∧ k_ ≠ al ∧ k_ ≠ ae) (.slice au l0_1.length av) l0_1) ∧ (Kd.R Kd.string 9 w' w.heap.size (fun k_ => (w.heap.size ≤ k_) ∧ some k_ ≠ (s_.2.2 : Value).ownBlock) (.slice aD an.length aE) an) ∧ (Kd.R k27 27 w' w.heap.size (fun k_ => (w.heap.size ≤ k_) ∧ some k_ ≠ (s_.2.1 : Value).ownBlock ∧ k_ ≠ ai) s_.1 be) ∧ (Kd.R k27 27 w' w.heap.size (fun k_ => (w.heap.size ≤ k_) ∧ some k_ ≠ (s_.1 : Value).ownBlock ∧ k_ ≠ ai) s_.2.1 aX) ∧ (Kd.R Kd.string 9 w' w.heap.size (fun k_ => (w.heap.size ≤ k_) ∧ some k_ ≠ (.slice aD an.length aE : Value).ownBlock) s_.2.2 b8) ∧ (w'.heap[aw]? = some (.cells #[.slice aq l0_0.length ar, .slice au l0_1.length av] 25 (0, 0))) ∧ (w'.heap[ai]? = some (.cells #[.string a1_0, .string a1_1] 27 (0, 0))) ∧ (w'.heap[al]? = some (.cells #[.slice none 0 0, .slice none 0 0] 25 (0, 0))) ∧ (w'.heap[ae]? = some (.cells #[.slice aL ax.length aM, .slice aD an.length aE] 25 (0, 0))) ∧ (Below w.heap.size w w')) ?_ ?_
   rotate_left
   ·intro hCont
    refine two_ (i := 4) (j := 10) (Ni := some 36) (Nj := some 42) (bA 16 991) (bA 16 1999) rfl rfl rfl rfl (two_of HT_.out (by kernel_rfl)) (by decide) (by decide) (fun K hK => ?_) (fun K hK => ?_)
    ·skip
     refine Kd.R_lit_step k27 _ 27 ?hg (N := 36) ?hd (xs := ([(⟨a1_0, a1_1⟩ : S27)] : List (S27))) (inner := [.string a1_0, .string a1_1]) (ok := fun _ => True) (okp := fun _ => True) ?hr ?hp (fun _ hk => hk) trivial (Below.refl _ _) (Nat.le_refl _) (by simp) ?_; (case hd => rfl); (case hg => rfl); (case hr => first | (go_simp; done) | (go_simp; rfl)); (case hp => exact (Reps.c2 (show Kd.M k27 _ _ _ (⟨a1_0, a1_1⟩ : S27) [.string a1_0, .string a1_1] from (k27_mkM _ _ _ (⟨a1_0, a1_1⟩ : S27) )) (Reps.none _ _)))
     intro b1 w57 ho58 hb hg_ hnew_
     clear hg_ hnew_
     (first | rw [← Ny275.out] at ho58 | (simp only [Int.reduceToNat] at ho58; rw [← Ny275.out] at ho58))
     replace aa := am (Kd.V_elder' (vT aa.out) (Kd.R_base ho58) hb)
     replace ab := am (Kd.V_elder' (vT ab.out) (Kd.R_base ho58) hb)
     replace ak := am (rB ak.out hb)
     have aC := am (Kd.R_lower (Kd.R_newB (Kd.R_new' (Kd.R_newM (M := fun k_ => (w.heap.size ≤ k_)) ho58 (below_size (eT HB.out)) (fun k_ h_ => h_)) (Kd.R_lt (rT aj.out))) (g := ai) (o := .cells #[.string a1_0, .string a1_1] 27 (0, 0)) (bT ad.out)) (below_size (eT HB.out)))
     replace ac := am (bB ac.out hb)
     replace ag := am (bB ag.out hb)
     replace af := am (bB af.out hb)
     replace aj := am (Kd.R_elder' (rT aj.out) (Kd.R_base ho58) hb)
     replace ad := am (bB ad.out hb)
     replace HB := am (sT HB.out hb)
     clear hb ho58
     obtain ⟨cn, co, dX⟩ := Kd.R_slice aC.out
     (first | subst dX | (injection dX with f1_ f2_ f3_; have f4_ := f1_.symm; have f5_ := f3_.symm; clear f1_ f2_ f3_; subst f4_; subst f5_))
     refine hK.out _ _ ⟨cT af 0, cT af 1, cT ad 0, cT ad 1⟩ (fun hHeld => ?_)
     clear hK K
     refine mN 36 ?_
     refine two_ (i := 5) (j := 10) (Ni := some 37) (Nj := some 42) (bA 16 1023) (bA 16 2015) rfl rfl rfl rfl (two_of HT_.out (by kernel_rfl)) (by decide) (by decide) (fun K hK => ?_) (fun K hK => ?_)
     ·skip
      refine gS Tryd.func20 #[.slice aL ax.length aM, .int .i64 aF, .slice cn be.length co] ?_
      with_reducible refine (api_Node_20.calls (fun k_ => some k_ = (.slice aL ax.length aM : Value).ownBlock) (.slice aL ax.length aM) ax aF _ _ be aX w _ ?side1 ?side2 ?side3 ?side4 A35.out).mono ?_
      (case side1 => repeat (first | (with_reducible first | exact HB.out | apply pA | apply pN | apply pD | refine eU ?_ (by assumption)) | exact HB.out))
      (case side2 => exact Kd.R_tight rfl aj.out)
      (case side3 => exact Kd.C_kept_own (aC.out) (fun k_ hk_ hs_ => (hk_.1.2) hs_))
      (case side4 => exact (Kd.R_reads' aC.out).2.1)
      rintro e w60 ⟨a_, rfl, ho0, hb, hkp⟩
      refine ⟨_, rfl, ?_⟩
      replace aa := am (Kd.V_mono (ok' := fun k_ => ((P0_0_ k_ ∨ P0_1_ k_) ∨ w.heap.size ≤ k_) ∧ some k_ ≠ (.slice aD an.length aE : Value).ownBlock ∧ some k_ ≠ (.slice cn be.length co : Value).ownBlock ∧ k_ ≠ aw ∧ k_ ≠ ai ∧ k_ ≠ al ∧ k_ ≠ ae ∧ some k_ ≠ (a_ : Value).ownBlock) (Kd.V_keptB (aa.out) hkp (fun k_ hk_ hs_ => (hk_.1.2.1) hs_)) (fun k_ hk_ => ⟨hk_.1.1.1, hk_.1.1.2.2.1, hk_.1.2, hk_.1.1.2.2.2.1, hk_.1.1.2.2.2.2.1, hk_.1.1.2.2.2.2.2.1, hk_.1.1.2.2.2.2.2.2, fun e_ => Or.elim (ho0.1 k_ e_.symm) (fun hs_ => hk_.2.1 hs_) (fun hn_ => Nat.not_le.2 hk_.2.2 hn_)⟩))
      replace ab := am (Kd.V_mono (ok' := fun k_ => ((P0_0_ k_ ∨ P0_1_ k_) ∨ w.heap.size ≤ k_) ∧ some k_ ≠ (.slice aD an.length aE : Value).ownBlock ∧ some k_ ≠ (.slice cn be.length co : Value).ownBlock ∧ k_ ≠ aw ∧ k_ ≠ ai ∧ k_ ≠ al ∧ k_ ≠ ae ∧ some k_ ≠ (a_ : Value).ownBlock) (Kd.V_keptB (ab.out) hkp (fun k_ hk_ hs_ => (hk_.1.2.1) hs_)) (fun k_ hk_ => ⟨hk_.1.1.1, hk_.1.1.2.2.1, hk_.1.2, hk_.1.1.2.2.2.1, hk_.1.1.2.2.2.2.1, hk_.1.1.2.2.2.2.2.1, hk_.1.1.2.2.2.2.2.2, fun e_ => Or.elim (ho0.1 k_ e_.symm) (fun hs_ => hk_.2.1 hs_) (fun hn_ => Nat.not_le.2 hk_.2.2 hn_)⟩))
      replace ac := am (blk_kept (bT ac.out) hkp (fun hs_ => (fun e_ => (Kd.R_ne aj.out ac.out (by decide)) e_) hs_))
      replace ag := am (blk_kept (bT ag.out) hkp (fun hs_ => (fun e_ => (Kd.R_ne aj.out ag.out (by decide)) e_) hs_))
      replace ak := am (Kd.R_mono (ok' := fun k_ => (w.heap.size ≤ k_)) (Kd.R_keptB ((Kd.R_apart' ak.out (Kd.R_typed aj.out) (by decide))) hkp (fun k_ hk_ hs_ => (hk_.2) hs_)) (fun k_ hk_ => hk_.1.1))
      replace af := am (blk_kept (bT af.out) hkp (fun hs_ => (fun e_ => (Kd.R_ne aj.out af.out (by decide)) e_) hs_))
      have bG := am (Kd.R_mono (ok' := fun k_ => (w.heap.size ≤ k_) ∧ some k_ ≠ (.slice cn be.length co : Value).ownBlock ∧ k_ ≠ ai) ho0 (fun k_ hk_ => ⟨Or.elim hk_ (fun hs_ => (aj.out.1 k_ (hs_).symm).1.1) (fun hn_ => (Nat.le_trans (below_size (eT HB.out)) hn_)), Or.elim hk_ (fun hs_ => fun e_ => (((aC.out).1 k_ e_.symm).1.2) hs_) (fun hn_ => (Kd.fresh' (Kd.R_lt (rT aC.out)) k_ hn_)), Or.elim hk_ (fun hs_ => fun e_ => (Kd.R_away aj.out (fun _ hk => hk.1.2)) (by rw [← e_]; exact hs_)) (fun hn_ => (Kd.freshB (g := ai) (o := .cells #[.string a1_0, .string a1_1] 27 (0, 0)) (bT ad.out) k_ hn_))⟩))
      replace ad := am (blk_kept (bT ad.out) hkp (fun hs_ => (fun e_ => (Kd.R_away aj.out (fun _ hk => hk.1.2)) e_) hs_))
      replace aC := am (Kd.R_mono (ok' := fun k_ => (w.heap.size ≤ k_) ∧ k_ ≠ ai ∧ some k_ ≠ (a_ : Value).ownBlock) (Kd.R_keptB (aC.out) hkp (fun k_ hk_ hs_ => (hk_.1.2) hs_)) (fun k_ hk_ => ⟨hk_.1.1.1.1, hk_.1.2, fun e_ => Or.elim (ho0.1 k_ e_.symm) (fun hs_ => hk_.2.1 hs_) (fun hn_ => Nat.not_le.2 hk_.2.2 hn_)⟩))
      replace HB := am (hb)
      clear aj
      (try clear hb)
      (try clear hkp)
      (try clear ho0)
      refine hK.out _ _ ⟨cT af 0, cT af 1, cT ad 0, cT ad 1⟩ (fun hHeld => ?_)
      clear hK K
      refine mN 37 ?_
      refine pT 12 44 (bA 16 5119) HT_.out ?_
      refine oT 10 (bA 16 6143) HT_.out fun K hK => ?_
      refine Kd.R_lit_step Kd.string _ 9 ?hg (N := 42) ?hd (xs := ([a2] : List ByteArray)) (inner := [.string a2]) (ok := fun _ => True) (okp := fun _ => True) ?hr ?hp (fun _ hk => hk) trivial (Below.refl _ _) (Nat.le_refl _) (by simp) ?_; (case hd => rfl); (case hg => rfl); (case hr => first | (go_simp; done) | (go_simp; rfl)); (case hp => exact (Reps.one (show Kd.M Kd.string _ _ _ a2 [.string a2] from rfl) (Reps.none _ _)))
      intro bI w61 ho62 hb hg_ hnew_
      clear hg_ hnew_
      (first | rw [← Ny281.out] at ho62 | (simp only [Int.reduceToNat] at ho62; rw [← Ny281.out] at ho62))
      replace aa := am (Kd.V_elder' (vT aa.out) (Kd.R_base ho62) hb)
      replace ab := am (Kd.V_elder' (vT ab.out) (Kd.R_base ho62) hb)
      replace aC := am (rB aC.out hb)
      replace bG := am (rB bG.out hb)
      have aP := am (Kd.R_lower (Kd.R_new' (Kd.R_newM (M := fun k_ => (w.heap.size ≤ k_)) ho62 (below_size (eT HB.out)) (fun k_ h_ => h_)) (Kd.R_lt (rT ak.out))) (below_size (eT HB.out)))
      replace ac := am (bB ac.out hb)
      replace ad := am (bB ad.out hb)
      replace ag := am (bB ag.out hb)
      replace af := am (bB af.out hb)
      replace ak := am (Kd.R_elder' (rT ak.out) (Kd.R_base ho62) hb)
      replace HB := am (sT HB.out hb)
      clear hb ho62
      refine hK.out _ _ ⟨cT af 0, cT af 1, cT ad 0, cT ad 1⟩ (fun hHeld => ?_)
      clear hK K
      refine mN 42 ?_
      exact norm_ (by simp only [putAll, Act.put, List.setIfInBounds_toArray, List.set_cons_zero, List.set_cons_succ]) (hCont (.slice cn be.length co, a_, bI) _ ⟨hHeld, (by (with_reducible repeat (first | apply Kd.V_alloc | apply Kd.V_drewN | apply Kd.V_drew)); exact Kd.V_mono aa.out (fun _ hk => ⟨hk.1.1, ⟨hk.1.2.1, ⟨hk.1.2.2.1, ⟨hk.1.2.2.2.2.2.2.2, ⟨hk.2, ⟨hk.1.2.2.2.1, ⟨hk.1.2.2.2.2.1, ⟨hk.1.2.2.2.2.2.1, hk.1.2.2.2.2.2.2.1⟩⟩⟩⟩⟩⟩⟩⟩)), (by (with_reducible repeat (first | apply Kd.V_alloc | apply Kd.V_drewN | apply Kd.V_drew)); exact Kd.V_mono ab.out (fun _ hk => ⟨hk.1.1, ⟨hk.1.2.1, ⟨hk.1.2.2.1, ⟨hk.1.2.2.2.2.2.2.2, ⟨hk.2, ⟨hk.1.2.2.2.1, ⟨hk.1.2.2.2.2.1, ⟨hk.1.2.2.2.2.2.1, hk.1.2.2.2.2.2.2.1⟩⟩⟩⟩⟩⟩⟩⟩)), (rT ak.out), (by (with_reducible repeat (first | apply Kd.R_alloc | apply Kd.R_drewN | apply Kd.R_drew)); exact Kd.R_mono aC.out (fun _ hk => ⟨hk.1, ⟨hk.2.2, hk.2.1⟩⟩)), (rT bG.out), (by (with_reducible repeat (first | apply Kd.R_alloc | apply Kd.R_drewN | apply Kd.R_drew)); exact Kd.R_mono aP.out (fun _ hk => ⟨hk.1.1, hk.2⟩)), (bT ac.out), (bT ad.out), (bT ag.out), (bT af.out), (eT HB.out)⟩)
     ·skip
      refine Kd.R_lit_step Kd.string _ 9 ?hg (N := 42) ?hd (xs := ([a2] : List ByteArray)) (inner := [.string a2]) (ok := fun _ => True) (okp := fun _ => True) ?hr ?hp (fun _ hk => hk) trivial (Below.refl _ _) (Nat.le_refl _) (by simp) ?_; (case hd => rfl); (case hg => rfl); (case hr => first | (go_simp; done) | (go_simp; rfl)); (case hp => exact (Reps.one (show Kd.M Kd.string _ _ _ a2 [.string a2] from rfl) (Reps.none _ _)))
      intro bI w59 ho60 hb hg_ hnew_
      clear hg_ hnew_
      (first | rw [← Ny281.out] at ho60 | (simp only [Int.reduceToNat] at ho60; rw [← Ny281.out] at ho60))
      replace aa := am (Kd.V_elder' (vT aa.out) (Kd.R_base ho60) hb)
      replace ab := am (Kd.V_elder' (vT ab.out) (Kd.R_base ho60) hb)
      replace aj := am (rB aj.out hb)
      replace aC := am (rB aC.out hb)
      have aP := am (Kd.R_lower (Kd.R_new' (Kd.R_newM (M := fun k_ => (w.heap.size ≤ k_)) ho60 (below_size (eT HB.out)) (fun k_ h_ => h_)) (Kd.R_lt (rT ak.out))) (below_size (eT HB.out)))
      replace ac := am (bB ac.out hb)
      replace ad := am (bB ad.out hb)
      replace ag := am (bB ag.out hb)
      replace af := am (bB af.out hb)
      replace ak := am (Kd.R_elder' (rT ak.out) (Kd.R_base ho60) hb)
      replace HB := am (sT HB.out hb)
      clear hb ho60
      obtain ⟨bR, bS, cp⟩ := Kd.R_slice aC.out
      (first | subst cp | (injection cp with f1_ f2_ f3_; have f4_ := f1_.symm; have f5_ := f3_.symm; clear f1_ f2_ f3_; subst f4_; subst f5_))
      refine hK.out _ _ ⟨cT af 0, cT af 1, cT ad 0, cT ad 1⟩ (fun hHeld => ?_)
      clear hK K
      refine mN 42 ?_
      refine oT 5 (bA 16 2047) HT_.out fun K hK => ?_
      refine gS Tryd.func20 #[.slice aL ax.length aM, .int .i64 aF, .slice bR be.length bS] ?_
      with_reducible refine (api_Node_20.calls (fun k_ => some k_ = (.slice aL ax.length aM : Value).ownBlock) (.slice aL ax.length aM) ax aF _ _ be aX w _ ?side1 ?side2 ?side3 ?side4 A35.out).mono ?_
      (case side1 => repeat (first | (with_reducible first | exact HB.out | apply pA | apply pN | apply pD | refine eU ?_ (by assumption)) | exact HB.out))
      (case side2 => exact Kd.R_tight rfl aj.out)
      (case side3 => exact Kd.C_kept_own (aC.out) (fun k_ hk_ hs_ => (hk_.1.2) hs_))
      (case side4 => exact (Kd.R_reads' aC.out).2.1)
      rintro e w62 ⟨a_, rfl, ho0, hb, hkp⟩
      refine ⟨_, rfl, ?_⟩
      replace aa := am (Kd.V_mono (ok' := fun k_ => ((P0_0_ k_ ∨ P0_1_ k_) ∨ w.heap.size ≤ k_) ∧ some k_ ≠ (.slice aD an.length aE : Value).ownBlock ∧ some k_ ≠ (.slice bR be.length bS : Value).ownBlock ∧ some k_ ≠ (bI : Value).ownBlock ∧ k_ ≠ aw ∧ k_ ≠ ai ∧ k_ ≠ al ∧ k_ ≠ ae ∧ some k_ ≠ (a_ : Value).ownBlock) (Kd.V_keptB (aa.out) hkp (fun k_ hk_ hs_ => (hk_.1.1.2.1) hs_)) (fun k_ hk_ => ⟨hk_.1.1.1.1, hk_.1.1.1.2.2.1, hk_.1.1.2, hk_.1.2, hk_.1.1.1.2.2.2.1, hk_.1.1.1.2.2.2.2.1, hk_.1.1.1.2.2.2.2.2.1, hk_.1.1.1.2.2.2.2.2.2, fun e_ => Or.elim (ho0.1 k_ e_.symm) (fun hs_ => hk_.2.1 hs_) (fun hn_ => Nat.not_le.2 hk_.2.2 hn_)⟩))
      replace ab := am (Kd.V_mono (ok' := fun k_ => ((P0_0_ k_ ∨ P0_1_ k_) ∨ w.heap.size ≤ k_) ∧ some k_ ≠ (.slice aD an.length aE : Value).ownBlock ∧ some k_ ≠ (.slice bR be.length bS : Value).ownBlock ∧ some k_ ≠ (bI : Value).ownBlock ∧ k_ ≠ aw ∧ k_ ≠ ai ∧ k_ ≠ al ∧ k_ ≠ ae ∧ some k_ ≠ (a_ : Value).ownBlock) (Kd.V_keptB (ab.out) hkp (fun k_ hk_ hs_ => (hk_.1.1.2.1) hs_)) (fun k_ hk_ => ⟨hk_.1.1.1.1, hk_.1.1.1.2.2.1, hk_.1.1.2, hk_.1.2, hk_.1.1.1.2.2.2.1, hk_.1.1.1.2.2.2.2.1, hk_.1.1.1.2.2.2.2.2.1, hk_.1.1.1.2.2.2.2.2.2, fun e_ => Or.elim (ho0.1 k_ e_.symm) (fun hs_ => hk_.2.1 hs_) (fun hn_ => Nat.not_le.2 hk_.2.2 hn_)⟩))
      replace ac := am (blk_kept (bT ac.out) hkp (fun hs_ => (fun e_ => (Kd.R_ne aj.out ac.out (by decide)) e_) hs_))
      replace ag := am (blk_kept (bT ag.out) hkp (fun hs_ => (fun e_ => (Kd.R_ne aj.out ag.out (by decide)) e_) hs_))
      replace ak := am (Kd.R_mono (ok' := fun k_ => (w.heap.size ≤ k_) ∧ some k_ ≠ (bI : Value).ownBlock) (Kd.R_keptB ((Kd.R_apart' ak.out (Kd.R_typed aj.out) (by decide))) hkp (fun k_ hk_ hs_ => (hk_.2) hs_)) (fun k_ hk_ => ⟨hk_.1.1.1, hk_.1.1.2⟩))
      replace af := am (blk_kept (bT af.out) hkp (fun hs_ => (fun e_ => (Kd.R_ne aj.out af.out (by decide)) e_) hs_))
      replace aP := am (Kd.R_mono (ok' := fun k_ => (w.heap.size ≤ k_) ∧ some k_ ≠ (.slice aD an.length aE : Value).ownBlock) (Kd.R_keptB ((Kd.R_apart' aP.out (Kd.R_typed aj.out) (by decide))) hkp (fun k_ hk_ hs_ => (hk_.2) hs_)) (fun k_ hk_ => ⟨hk_.1.1.1.1, hk_.1.1.2⟩))
      have bG := am (Kd.R_mono (ok' := fun k_ => (w.heap.size ≤ k_) ∧ some k_ ≠ (.slice bR be.length bS : Value).ownBlock ∧ k_ ≠ ai) ho0 (fun k_ hk_ => ⟨Or.elim hk_ (fun hs_ => (aj.out.1 k_ (hs_).symm).1.1) (fun hn_ => (Nat.le_trans (below_size (eT HB.out)) hn_)), Or.elim hk_ (fun hs_ => fun e_ => (((aC.out).1 k_ e_.symm).1.2) hs_) (fun hn_ => (Kd.fresh' (Kd.R_lt (rT aC.out)) k_ hn_)), Or.elim hk_ (fun hs_ => fun e_ => (Kd.R_away aj.out (fun _ hk => hk.1.2)) (by rw [← e_]; exact hs_)) (fun hn_ => (Kd.freshB (g := ai) (o := .cells #[.string a1_0, .string a1_1] 27 (0, 0)) (bT ad.out) k_ hn_))⟩))
      replace ad := am (blk_kept (bT ad.out) hkp (fun hs_ => (fun e_ => (Kd.R_away aj.out (fun _ hk => hk.1.2)) e_) hs_))
      replace aC := am (Kd.R_mono (ok' := fun k_ => (w.heap.size ≤ k_) ∧ k_ ≠ ai ∧ some k_ ≠ (a_ : Value).ownBlock) (Kd.R_keptB (aC.out) hkp (fun k_ hk_ hs_ => (hk_.1.2) hs_)) (fun k_ hk_ => ⟨hk_.1.1.1.1, hk_.1.2, fun e_ => Or.elim (ho0.1 k_ e_.symm) (fun hs_ => hk_.2.1 hs_) (fun hn_ => Nat.not_le.2 hk_.2.2 hn_)⟩))
      replace HB := am (hb)
      clear aj
      (try clear hb)
      (try clear hkp)
      (try clear ho0)
      refine hK.out _ _ ⟨cT af 0, cT af 1, cT ad 0, cT ad 1⟩ (fun hHeld => ?_)
      clear hK K
      refine mN 37 ?_
      refine pT 12 44 (bA 16 6143) HT_.out ?_
      exact norm_ (by simp only [putAll, Act.put, List.setIfInBounds_toArray, List.set_cons_zero, List.set_cons_succ]) (hCont (.slice bR be.length bS, a_, bI) _ ⟨hHeld, (by (with_reducible repeat (first | apply Kd.V_alloc | apply Kd.V_drewN | apply Kd.V_drew)); exact Kd.V_mono aa.out (fun _ hk => ⟨hk.1, ⟨hk.2.1, ⟨hk.2.2.1, ⟨hk.2.2.2.2.2.2.2.2, ⟨hk.2.2.2.1, ⟨hk.2.2.2.2.1, ⟨hk.2.2.2.2.2.1, ⟨hk.2.2.2.2.2.2.1, hk.2.2.2.2.2.2.2.1⟩⟩⟩⟩⟩⟩⟩⟩)), (by (with_reducible repeat (first | apply Kd.V_alloc | apply Kd.V_drewN | apply Kd.V_drew)); exact Kd.V_mono ab.out (fun _ hk => ⟨hk.1, ⟨hk.2.1, ⟨hk.2.2.1, ⟨hk.2.2.2.2.2.2.2.2, ⟨hk.2.2.2.1, ⟨hk.2.2.2.2.1, ⟨hk.2.2.2.2.2.1, ⟨hk.2.2.2.2.2.2.1, hk.2.2.2.2.2.2.2.1⟩⟩⟩⟩⟩⟩⟩⟩)), (rT ak.out), (by (with_reducible repeat (first | apply Kd.R_alloc | apply Kd.R_drewN | apply Kd.R_drew)); exact Kd.R_mono aC.out (fun _ hk => ⟨hk.1, ⟨hk.2.2, hk.2.1⟩⟩)), (rT bG.out), (rT aP.out), (bT ac.out), (bT ad.out), (bT ag.out), (bT af.out), (eT HB.out)⟩)
    ·skip
     refine Kd.R_lit_step Kd.string _ 9 ?hg (N := 42) ?hd (xs := ([a2] : List ByteArray)) (inner := [.string a2]) (ok := fun _ => True) (okp := fun _ => True) ?hr ?hp (fun _ hk => hk) trivial (Below.refl _ _) (Nat.le_refl _) (by simp) ?_; (case hd => rfl); (case hg => rfl); (case hr => first | (go_simp; done) | (go_simp; rfl)); (case hp => exact (Reps.one (show Kd.M Kd.string _ _ _ a2 [.string a2] from rfl) (Reps.none _ _)))
     intro bI w57 ho58 hb hg_ hnew_
     clear hg_ hnew_
     (first | rw [← Ny281.out] at ho58 | (simp only [Int.reduceToNat] at ho58; rw [← Ny281.out] at ho58))
     replace aa := am (Kd.V_elder' (vT aa.out) (Kd.R_base ho58) hb)
     replace ab := am (Kd.V_elder' (vT ab.out) (Kd.R_base ho58) hb)
     replace aj := am (rB aj.out hb)
     have aP := am (Kd.R_lower (Kd.R_new' (Kd.R_newM (M := fun k_ => (w.heap.size ≤ k_)) ho58 (below_size (eT HB.out)) (fun k_ h_ => h_)) (Kd.R_lt (rT ak.out))) (below_size (eT HB.out)))
     replace ac := am (bB ac.out hb)
     replace ad := am (bB ad.out hb)
     replace ag := am (bB ag.out hb)
     replace af := am (bB af.out hb)
     replace ak := am (Kd.R_elder' (rT ak.out) (Kd.R_base ho58) hb)
     replace HB := am (sT HB.out hb)
     clear hb ho58
     refine hK.out _ _ ⟨cT af 0, cT af 1, cT ad 0, cT ad 1⟩ (fun hHeld => ?_)
     clear hK K
     refine mN 42 ?_
     refine oT 4 (bA 16 2015) HT_.out fun K hK => ?_
     refine Kd.R_lit_step k27 _ 27 ?hg (N := 36) ?hd (xs := ([(⟨a1_0, a1_1⟩ : S27)] : List (S27))) (inner := [.string a1_0, .string a1_1]) (ok := fun _ => True) (okp := fun _ => True) ?hr ?hp (fun _ hk => hk) trivial (Below.refl _ _) (Nat.le_refl _) (by simp) ?_; (case hd => rfl); (case hg => rfl); (case hr => first | (go_simp; done) | (go_simp; rfl)); (case hp => exact (Reps.c2 (show Kd.M k27 _ _ _ (⟨a1_0, a1_1⟩ : S27) [.string a1_0, .string a1_1] from (k27_mkM _ _ _ (⟨a1_0, a1_1⟩ : S27) )) (Reps.none _ _)))
     intro b1 w59 ho60 hb hg_ hnew_
     clear hg_ hnew_
     (first | rw [← Ny275.out] at ho60 | (simp only [Int.reduceToNat] at ho60; rw [← Ny275.out] at ho60))
     replace aa := am (Kd.V_elder' (vT aa.out) (Kd.R_base ho60) hb)
     replace ab := am (Kd.V_elder' (vT ab.out) (Kd.R_base ho60) hb)
     replace ak := am (rB ak.out hb)
     replace aP := am (rB aP.out hb)
     have aC := am (Kd.R_lower (Kd.R_newB (Kd.R_new' (Kd.R_newM (M := fun k_ => (w.heap.size ≤ k_)) ho60 (below_size (eT HB.out)) (fun k_ h_ => h_)) (Kd.R_lt (rT aj.out))) (g := ai) (o := .cells #[.string a1_0, .string a1_1] 27 (0, 0)) (bT ad.out)) (below_size (eT HB.out)))
     replace ac := am (bB ac.out hb)
     replace ag := am (bB ag.out hb)
     replace af := am (bB af.out hb)
     replace aj := am (Kd.R_elder' (rT aj.out) (Kd.R_base ho60) hb)
     replace ad := am (bB ad.out hb)
     replace HB := am (sT HB.out hb)
     clear hb ho60
     obtain ⟨bR, bS, cp⟩ := Kd.R_slice aC.out
     (first | subst cp | (injection cp with f1_ f2_ f3_; have f4_ := f1_.symm; have f5_ := f3_.symm; clear f1_ f2_ f3_; subst f4_; subst f5_))
     refine hK.out _ _ ⟨cT af 0, cT af 1, cT ad 0, cT ad 1⟩ (fun hHeld => ?_)
     clear hK K
     refine mN 36 ?_
     refine oT 5 (bA 16 2047) HT_.out fun K hK => ?_
     refine gS Tryd.func20 #[.slice aL ax.length aM, .int .i64 aF, .slice bR be.length bS] ?_
     with_reducible refine (api_Node_20.calls (fun k_ => some k_ = (.slice aL ax.length aM : Value).ownBlock) (.slice aL ax.length aM) ax aF _ _ be aX w _ ?side1 ?side2 ?side3 ?side4 A35.out).mono ?_
     (case side1 => repeat (first | (with_reducible first | exact HB.out | apply pA | apply pN | apply pD | refine eU ?_ (by assumption)) | exact HB.out))
     (case side2 => exact Kd.R_tight rfl aj.out)
     (case side3 => exact Kd.C_kept_own (aC.out) (fun k_ hk_ hs_ => (hk_.1.2) hs_))
     (case side4 => exact (Kd.R_reads' aC.out).2.1)
     rintro e w62 ⟨a_, rfl, ho0, hb, hkp⟩
     refine ⟨_, rfl, ?_⟩
     replace aa := am (Kd.V_mono (ok' := fun k_ => ((P0_0_ k_ ∨ P0_1_ k_) ∨ w.heap.size ≤ k_) ∧ some k_ ≠ (.slice aD an.length aE : Value).ownBlock ∧ some k_ ≠ (bI : Value).ownBlock ∧ some k_ ≠ (.slice bR be.length bS : Value).ownBlock ∧ k_ ≠ aw ∧ k_ ≠ ai ∧ k_ ≠ al ∧ k_ ≠ ae ∧ some k_ ≠ (a_ : Value).ownBlock) (Kd.V_keptB (aa.out) hkp (fun k_ hk_ hs_ => (hk_.1.1.2.1) hs_)) (fun k_ hk_ => ⟨hk_.1.1.1.1, hk_.1.1.1.2.2.1, hk_.1.1.2, hk_.1.2, hk_.1.1.1.2.2.2.1, hk_.1.1.1.2.2.2.2.1, hk_.1.1.1.2.2.2.2.2.1, hk_.1.1.1.2.2.2.2.2.2, fun e_ => Or.elim (ho0.1 k_ e_.symm) (fun hs_ => hk_.2.1 hs_) (fun hn_ => Nat.not_le.2 hk_.2.2 hn_)⟩))
     replace ab := am (Kd.V_mono (ok' := fun k_ => ((P0_0_ k_ ∨ P0_1_ k_) ∨ w.heap.size ≤ k_) ∧ some k_ ≠ (.slice aD an.length aE : Value).ownBlock ∧ some k_ ≠ (bI : Value).ownBlock ∧ some k_ ≠ (.slice bR be.length bS : Value).ownBlock ∧ k_ ≠ aw ∧ k_ ≠ ai ∧ k_ ≠ al ∧ k_ ≠ ae ∧ some k_ ≠ (a_ : Value).ownBlock) (Kd.V_keptB (ab.out) hkp (fun k_ hk_ hs_ => (hk_.1.1.2.1) hs_)) (fun k_ hk_ => ⟨hk_.1.1.1.1, hk_.1.1.1.2.2.1, hk_.1.1.2, hk_.1.2, hk_.1.1.1.2.2.2.1, hk_.1.1.1.2.2.2.2.1, hk_.1.1.1.2.2.2.2.2.1, hk_.1.1.1.2.2.2.2.2.2, fun e_ => Or.elim (ho0.1 k_ e_.symm) (fun hs_ => hk_.2.1 hs_) (fun hn_ => Nat.not_le.2 hk_.2.2 hn_)⟩))
     replace ac := am (blk_kept (bT ac.out) hkp (fun hs_ => (fun e_ => (Kd.R_ne aj.out ac.out (by decide)) e_) hs_))
     replace ag := am (blk_kept (bT ag.out) hkp (fun hs_ => (fun e_ => (Kd.R_ne aj.out ag.out (by decide)) e_) hs_))
     replace ak := am (Kd.R_mono (ok' := fun k_ => (w.heap.size ≤ k_) ∧ some k_ ≠ (bI : Value).ownBlock) (Kd.R_keptB ((Kd.R_apart' ak.out (Kd.R_typed aj.out) (by decide))) hkp (fun k_ hk_ hs_ => (hk_.2) hs_)) (fun k_ hk_ => ⟨hk_.1.1.1, hk_.1.1.2⟩))
     replace af := am (blk_kept (bT af.out) hkp (fun hs_ => (fun e_ => (Kd.R_ne aj.out af.out (by decide)) e_) hs_))
     replace aP := am (Kd.R_mono (ok' := fun k_ => (w.heap.size ≤ k_) ∧ some k_ ≠ (.slice aD an.length aE : Value).ownBlock) (Kd.R_keptB ((Kd.R_apart' aP.out (Kd.R_typed aj.out) (by decide))) hkp (fun k_ hk_ hs_ => (hk_.2) hs_)) (fun k_ hk_ => ⟨hk_.1.1.1.1, hk_.1.1.2⟩))
     have bG := am (Kd.R_mono (ok' := fun k_ => (w.heap.size ≤ k_) ∧ some k_ ≠ (.slice bR be.length bS : Value).ownBlock ∧ k_ ≠ ai) ho0 (fun k_ hk_ => ⟨Or.elim hk_ (fun hs_ => (aj.out.1 k_ (hs_).symm).1.1) (fun hn_ => (Nat.le_trans (below_size (eT HB.out)) hn_)), Or.elim hk_ (fun hs_ => fun e_ => (((aC.out).1 k_ e_.symm).1.2) hs_) (fun hn_ => (Kd.fresh' (Kd.R_lt (rT aC.out)) k_ hn_)), Or.elim hk_ (fun hs_ => fun e_ => (Kd.R_away aj.out (fun _ hk => hk.1.2)) (by rw [← e_]; exact hs_)) (fun hn_ => (Kd.freshB (g := ai) (o := .cells #[.string a1_0, .string a1_1] 27 (0, 0)) (bT ad.out) k_ hn_))⟩))
     replace ad := am (blk_kept (bT ad.out) hkp (fun hs_ => (fun e_ => (Kd.R_away aj.out (fun _ hk => hk.1.2)) e_) hs_))
     replace aC := am (Kd.R_mono (ok' := fun k_ => (w.heap.size ≤ k_) ∧ k_ ≠ ai ∧ some k_ ≠ (a_ : Value).ownBlock) (Kd.R_keptB (aC.out) hkp (fun k_ hk_ hs_ => (hk_.1.2) hs_)) (fun k_ hk_ => ⟨hk_.1.1.1.1, hk_.1.2, fun e_ => Or.elim (ho0.1 k_ e_.symm) (fun hs_ => hk_.2.1 hs_) (fun hn_ => Nat.not_le.2 hk_.2.2 hn_)⟩))
     replace HB := am (hb)
     clear aj
     (try clear hb)
     (try clear hkp)
     (try clear ho0)
     refine hK.out _ _ ⟨cT af 0, cT af 1, cT ad 0, cT ad 1⟩ (fun hHeld => ?_)
     clear hK K
     refine mN 37 ?_
     refine pT 12 44 (bA 16 6143) HT_.out ?_
     exact norm_ (by simp only [putAll, Act.put, List.setIfInBounds_toArray, List.set_cons_zero, List.set_cons_succ]) (hCont (.slice bR be.length bS, a_, bI) _ ⟨hHeld, (by (with_reducible repeat (first | apply Kd.V_alloc | apply Kd.V_drewN | apply Kd.V_drew)); exact Kd.V_mono aa.out (fun _ hk => ⟨hk.1, ⟨hk.2.1, ⟨hk.2.2.2.1, ⟨hk.2.2.2.2.2.2.2.2, ⟨hk.2.2.1, ⟨hk.2.2.2.2.1, ⟨hk.2.2.2.2.2.1, ⟨hk.2.2.2.2.2.2.1, hk.2.2.2.2.2.2.2.1⟩⟩⟩⟩⟩⟩⟩⟩)), (by (with_reducible repeat (first | apply Kd.V_alloc | apply Kd.V_drewN | apply Kd.V_drew)); exact Kd.V_mono ab.out (fun _ hk => ⟨hk.1, ⟨hk.2.1, ⟨hk.2.2.2.1, ⟨hk.2.2.2.2.2.2.2.2, ⟨hk.2.2.1, ⟨hk.2.2.2.2.1, ⟨hk.2.2.2.2.2.1, ⟨hk.2.2.2.2.2.2.1, hk.2.2.2.2.2.2.2.1⟩⟩⟩⟩⟩⟩⟩⟩)), (rT ak.out), (by (with_reducible repeat (first | apply Kd.R_alloc | apply Kd.R_drewN | apply Kd.R_drew)); exact Kd.R_mono aC.out (fun _ hk => ⟨hk.1, ⟨hk.2.2, hk.2.1⟩⟩)), (rT bG.out), (rT aP.out), (bT ac.out), (bT ad.out), (bT ag.out), (bT af.out), (eT HB.out)⟩)
   rintro ⟨b1, a_, bI⟩ w63 ⟨hS_, h0_, h1_, h2_, h3_, h4_, h5_, h6_, h7_, h8_, h9_, h10_⟩
   replace aa : Aside0 (Kd.V k27 27 w63 w.heap.size (fun k_ => ((P0_0_ k_ ∨ P0_1_ k_) ∨ w.heap.size ≤ k_) ∧ some k_ ≠ (.slice aD an.length aE : Value).ownBlock ∧ some k_ ≠ (b1 : Value).ownBlock ∧ some k_ ≠ (a_ : Value).ownBlock ∧ some k_ ≠ (bI : Value).ownBlock ∧ k_ ≠ aw ∧ k_ ≠ ai ∧ k_ ≠ al ∧ k_ ≠ ae) (.slice aq l0_0.length ar) l0_0) := ⟨h0_⟩
   replace ab : Aside0 (Kd.V Kd.string 9 w63 w.heap.size (fun k_ => ((P0_0_ k_ ∨ P0_1_ k_) ∨ w.heap.size ≤ k_) ∧ some k_ ≠ (.slice aD an.length aE : Value).ownBlock ∧ some k_ ≠ (b1 : Value).ownBlock ∧ some k_ ≠ (a_ : Value).ownBlock ∧ some k_ ≠ (bI : Value).ownBlock ∧ k_ ≠ aw ∧ k_ ≠ ai ∧ k_ ≠ al ∧ k_ ≠ ae) (.slice au l0_1.length av) l0_1) := ⟨h1_⟩
   replace ak : Aside0 (Kd.R Kd.string 9 w63 w.heap.size (fun k_ => (w.heap.size ≤ k_) ∧ some k_ ≠ (bI : Value).ownBlock) (.slice aD an.length aE) an) := ⟨h2_⟩
   have aC : Aside0 (Kd.R k27 27 w63 w.heap.size (fun k_ => (w.heap.size ≤ k_) ∧ some k_ ≠ (a_ : Value).ownBlock ∧ k_ ≠ ai) b1 be) := ⟨h3_⟩
   have bG : Aside0 (Kd.R k27 27 w63 w.heap.size (fun k_ => (w.heap.size ≤ k_) ∧ some k_ ≠ (b1 : Value).ownBlock ∧ k_ ≠ ai) a_ aX) := ⟨h4_⟩
   have aP : Aside0 (Kd.R Kd.string 9 w63 w.heap.size (fun k_ => (w.heap.size ≤ k_) ∧ some k_ ≠ (.slice aD an.length aE : Value).ownBlock) bI b8) := ⟨h5_⟩
   replace ac : Aside0 (w63.heap[aw]? = some (.cells #[.slice aq l0_0.length ar, .slice au l0_1.length av] 25 (0, 0))) := ⟨h6_⟩
   replace ad : Aside0 (w63.heap[ai]? = some (.cells #[.string a1_0, .string a1_1] 27 (0, 0))) := ⟨h7_⟩
   replace ag : Aside0 (w63.heap[al]? = some (.cells #[.slice none 0 0, .slice none 0 0] 25 (0, 0))) := ⟨h8_⟩
   replace af : Aside0 (w63.heap[ae]? = some (.cells #[.slice aL ax.length aM, .slice aD an.length aE] 25 (0, 0))) := ⟨h9_⟩
   replace HB : Aside0 (Below w.heap.size w w63) := ⟨h10_⟩
   clear aj h0_ h1_ h2_ h3_ h4_ h5_ h6_ h7_ h8_ h9_ h10_
   have hHeld := hS_
   (try dsimp only at hHeld)
   obtain ⟨cR, cS, dY⟩ := Kd.R_slice aP.out
   (first | subst dY | (injection dY with f1_ f2_ f3_; have f4_ := f1_.symm; have f5_ := f3_.symm; clear f1_ f2_ f3_; subst f4_; subst f5_))
   refine rN ?_
   refine oT 11 (bA 16 8191) HT_.out fun K hK => ?_
   refine gS Tryd.func21 #[.slice aD an.length aE, .int .i64 aF, .slice cR b8.length cS] ?_
   with_reducible refine (slices_Insert_string_string.calls (fun k_ => some k_ = (.slice aD an.length aE : Value).ownBlock) (.slice aD an.length aE) an aF _ _ b8 a9 w _ ?side1 ?side2 ?side3 ?side4 A36.out).mono ?_
   (case side1 => repeat (first | (with_reducible first | exact HB.out | apply pA | apply pN | apply pD | refine eU ?_ (by assumption)) | exact HB.out))
   (case side2 => exact Kd.R_tight rfl ak.out)
   (case side3 => exact Kd.C_kept_own (aP.out) (fun k_ hk_ hs_ => (hk_.2) hs_))
   (case side4 => exact (Kd.R_reads' aP.out).2.1)
   rintro e w65 ⟨dv, rfl, ho0, hb, hkp⟩
   refine ⟨_, rfl, ?_⟩
   replace aa := am (Kd.V_mono (ok' := fun k_ => ((P0_0_ k_ ∨ P0_1_ k_) ∨ w.heap.size ≤ k_) ∧ some k_ ≠ (b1 : Value).ownBlock ∧ some k_ ≠ (a_ : Value).ownBlock ∧ some k_ ≠ (.slice cR b8.length cS : Value).ownBlock ∧ k_ ≠ aw ∧ k_ ≠ ai ∧ k_ ≠ al ∧ k_ ≠ ae ∧ some k_ ≠ (dv : Value).ownBlock) (Kd.V_keptB (aa.out) hkp (fun k_ hk_ hs_ => (hk_.2.1) hs_)) (fun k_ hk_ => ⟨hk_.1.1, hk_.1.2.2.1, hk_.1.2.2.2.1, hk_.1.2.2.2.2.1, hk_.1.2.2.2.2.2.1, hk_.1.2.2.2.2.2.2.1, hk_.1.2.2.2.2.2.2.2.1, hk_.1.2.2.2.2.2.2.2.2, fun e_ => Or.elim (ho0.1 k_ e_.symm) (fun hs_ => hk_.2.1 hs_) (fun hn_ => Nat.not_le.2 hk_.2.2 hn_)⟩))
   replace ab := am (Kd.V_mono (ok' := fun k_ => ((P0_0_ k_ ∨ P0_1_ k_) ∨ w.heap.size ≤ k_) ∧ some k_ ≠ (b1 : Value).ownBlock ∧ some k_ ≠ (a_ : Value).ownBlock ∧ some k_ ≠ (.slice cR b8.length cS : Value).ownBlock ∧ k_ ≠ aw ∧ k_ ≠ ai ∧ k_ ≠ al ∧ k_ ≠ ae ∧ some k_ ≠ (dv : Value).ownBlock) (Kd.V_keptB (ab.out) hkp (fun k_ hk_ hs_ => (hk_.2.1) hs_)) (fun k_ hk_ => ⟨hk_.1.1, hk_.1.2.2.1, hk_.1.2.2.2.1, hk_.1.2.2.2.2.1, hk_.1.2.2.2.2.2.1, hk_.1.2.2.2.2.2.2.1, hk_.1.2.2.2.2.2.2.2.1, hk_.1.2.2.2.2.2.2.2.2, fun e_ => Or.elim (ho0.1 k_ e_.symm) (fun hs_ => hk_.2.1 hs_) (fun hn_ => Nat.not_le.2 hk_.2.2 hn_)⟩))
   replace ac := am (blk_kept (bT ac.out) hkp (fun hs_ => (fun e_ => (Kd.R_ne ak.out ac.out (by decide)) e_) hs_))
   replace ad := am (blk_kept (bT ad.out) hkp (fun hs_ => (fun e_ => (Kd.R_ne ak.out ad.out (by decide)) e_) hs_))
   replace ag := am (blk_kept (bT ag.out) hkp (fun hs_ => (fun e_ => (Kd.R_ne ak.out ag.out (by decide)) e_) hs_))
   replace af := am (blk_kept (bT af.out) hkp (fun hs_ => (fun e_ => (Kd.R_ne ak.out af.out (by decide)) e_) hs_))
   replace aC := am (Kd.R_mono (ok' := fun k_ => (w.heap.size ≤ k_) ∧ some k_ ≠ (a_ : Value).ownBlock ∧ k_ ≠ ai) (Kd.R_keptB ((Kd.R_apart' aC.out (Kd.R_typed ak.out) (by decide))) hkp (fun k_ hk_ hs_ => (hk_.2) hs_)) (fun k_ hk_ => ⟨hk_.1.1.1, hk_.1.1.2.1, hk_.1.1.2.2⟩))
   replace bG := am (Kd.R_mono (ok' := fun k_ => (w.heap.size ≤ k_) ∧ some k_ ≠ (b1 : Value).ownBlock ∧ k_ ≠ ai) (Kd.R_keptB ((Kd.R_apart' bG.out (Kd.R_typed ak.out) (by decide))) hkp (fun k_ hk_ hs_ => (hk_.2) hs_)) (fun k_ hk_ => ⟨hk_.1.1.1, hk_.1.1.2.1, hk_.1.1.2.2⟩))
   have dh := am (Kd.R_mono (ok' := fun k_ => (w.heap.size ≤ k_) ∧ some k_ ≠ (.slice cR b8.length cS : Value).ownBlock) ho0 (fun k_ hk_ => ⟨Or.elim hk_ (fun hs_ => (ak.out.1 k_ (hs_).symm).1) (fun hn_ => (Nat.le_trans (below_size (eT HB.out)) hn_)), Or.elim hk_ (fun hs_ => fun e_ => (((aP.out).1 k_ e_.symm).2) hs_) (fun hn_ => (Kd.fresh' (Kd.R_lt (rT aP.out)) k_ hn_))⟩))
   replace aP := am (Kd.R_mono (ok' := fun k_ => (w.heap.size ≤ k_) ∧ some k_ ≠ (dv : Value).ownBlock) (Kd.R_keptB (aP.out) hkp (fun k_ hk_ hs_ => (hk_.2) hs_)) (fun k_ hk_ => ⟨hk_.1.1, fun e_ => Or.elim (ho0.1 k_ e_.symm) (fun hs_ => hk_.2.1 hs_) (fun hn_ => Nat.not_le.2 hk_.2.2 hn_)⟩))
   replace HB := am (hb)
   clear ak
   (try clear hb)
   (try clear hkp)
   (try clear ho0)
   obtain ⟨cf, cg, dZ⟩ := Kd.R_slice bG.out
   (first | subst dZ | (injection dZ with f1_ f2_ f3_; have f4_ := f1_.symm; have f5_ := f3_.symm; clear f1_ f2_ f3_; subst f4_; subst f5_))
   obtain ⟨cq, cr, d0⟩ := Kd.R_slice dh.out
   (first | subst d0 | (injection d0 with f1_ f2_ f3_; have f4_ := f1_.symm; have f5_ := f3_.symm; clear f1_ f2_ f3_; subst f4_; subst f5_))
   refine hK.out _ _ ⟨cT af 0, cT af 1, cT ad 0, cT ad 1⟩ (fun hHeld => ?_)
   clear hK K
   refine mN 43 ?_
   refine last_ (i := 13) (N := none) (bA 16 16383) rfl rfl (one_of HT_.out (by kernel_rfl)) (by decide) (fun K hK => ?_)
   have gP : w65.cell? ⟨ae, 0, none⟩ = some (.slice aL ax.length aM) := cT af 0
   have gm := blk_frozen af.out 0
   have et := aJ.out
   have eu := aK.out
   have ev := aG.out
   have ew := bl.out
   have ex := bm.out
   have ey := bo.out
   refine skip_ (w1 := ?_) (by rfl) rfl ?_ ?_
   rotate_left
   ·go_simp
    rfl
   refine hK.out _ _ ?_
   clear hK K
   refine pT 14 45 (bA 16 32767) HT_.out ?_
   refine last_ (i := 15) (N := none) (bA 16 65535) rfl rfl (one_of HT_.out (by kernel_rfl)) (by decide) (fun K hK => ?_)
   have gQ : w65.cell? ⟨ae, 1, none⟩ = some (.slice aD an.length aE) := cT af 1
   have gn := blk_frozen af.out 1
   have ez := aJ.out
   have eA := aK.out
   have eB := aG.out
   have eC := bl.out
   have eD := bm.out
   have eE := bo.out
   refine skip_ (w1 := ?_) (by rfl) rfl ?_ ?_
   rotate_left
   ·go_simp
    rfl
   refine hK.out _ _ ?_
   clear hK K
   refine done_ (done_of HT_.out (by kernel_rfl)) ?_
   have eF : w65.cell? ⟨ae, 0, none⟩ = some (.slice aL ax.length aM) := cT af 0
   have eG : w65.cell? ⟨ae, 1, none⟩ = some (.slice aD an.length aE) := cT af 1
   have eH := blk_frozen af.out 0
   have eI := blk_frozen af.out 1
   have eJ : w65.cell? ⟨al, 0, none⟩ = some (.slice none 0 0) := cT ag 0
   have eK : w65.cell? ⟨al, 1, none⟩ = some (.slice none 0 0) := cT ag 1
   have eL := blk_frozen ag.out 0
   have eM := blk_frozen ag.out 1
   try go_wp2
   refine bodyPost_ret (results_ct rfl _ _ al 25 #[.slice cf aX.length cg, .slice cq a9.length cr] (0, 0) _ rfl (by (with_reducible repeat (first | apply bn | apply bd | apply ba)); refine blk_put (cs := #[.slice cf aX.length cg, .slice none 0 0]) ?_ 1 _ rfl; (with_reducible repeat (first | apply bn | apply bd | apply ba)); refine blk_put (cs := #[.slice none 0 0, .slice none 0 0]) ?_ 0 _ rfl; (with_reducible repeat (first | apply bn | apply bd | apply ba)); refine blk_far ?_ aG.out _; (with_reducible repeat (first | apply bn | apply bd | apply ba)); refine blk_far ?_ aG.out _; exact bT ag.out) Tryd.underlying25 rfl (by kernel_rfl)) rfl ?_
   exact ⟨_, _, by first | rfl | (simp [errW_none, errW_some] <;> rfl) | (simp [*, errW_none, errW_some] <;> rfl), Kd.V_mono (Kd.R_V (by (with_reducible repeat (first | apply Kd.R_alloc | apply Kd.R_drewN | apply Kd.R_drew)); exact Kd.R_mono (Kd.R_far (p := ⟨al, 1, none⟩) (Kd.R_far (p := ⟨al, 0, none⟩) (Kd.R_far (p := ⟨ae, 1, none⟩) (Kd.R_far (p := ⟨ae, 0, none⟩) (Kd.R_types (Kd.R_types bG.out af.out (by decide)) ag.out (by decide)) (fun _ hk => hk.1.2) (.slice cf aX.length cg)) (fun _ hk => hk.1.2) (.slice cq a9.length cr)) (fun _ hk => hk.2) (.slice cf aX.length cg)) (fun _ hk => hk.2) (.slice cq a9.length cr)) (fun _ hk => hk.1.1.1))) (fun k_ hk => by first | exact ⟨(.inr (hk.1)), hk.2⟩ | exact (.inr (hk))), Kd.V_mono (Kd.R_V (by (with_reducible repeat (first | apply Kd.R_alloc | apply Kd.R_drewN | apply Kd.R_drew)); exact Kd.R_mono (Kd.R_far (p := ⟨al, 1, none⟩) (Kd.R_far (p := ⟨al, 0, none⟩) (Kd.R_far (p := ⟨ae, 1, none⟩) (Kd.R_far (p := ⟨ae, 0, none⟩) (Kd.R_types (Kd.R_types dh.out af.out (by decide)) ag.out (by decide)) (fun _ hk => hk.1.2) (.slice cf aX.length cg)) (fun _ hk => hk.1.2) (.slice cq a9.length cr)) (fun _ hk => hk.2) (.slice cf aX.length cg)) (fun _ hk => hk.2) (.slice cq a9.length cr)) (fun _ hk => hk.1.1.1))) (fun k_ hk => by first | exact ⟨(.inr (hk.1)), hk.2⟩ | exact (.inr (hk))), by repeat (first | (with_reducible first | exact HB.out | apply pA | apply pN | apply pD | refine eU ?_ (by assumption)) | exact HB.out)⟩
 ·rw [if_neg c5] at H
  have fV : (bU == 0) = false := beq_eq_false_iff_ne.mpr c5
  have fW : (bU != 0) = true := bne_iff_ne.mpr c5
  simp only [Option.some.injEq, Prod.mk.injEq] at H
  obtain ⟨rfl, rfl, rfl⟩ := H
  go_enter Tryd.func9, Tryd.ntmps9
  go_wp2_with (first | ((with_reducible refine gate_dst (N := 3) rfl ?_); refine box_event ?hg (N := 3) ?hd (cs := #[.slice aq l0_0.length ar, .slice au l0_1.length av]) (t := 25) ?hr ?_; (case hd => rfl); (case hg => rfl); (case hr => first | (go_simp; done) | (go_simp; rfl)); intro aw hg w72 hbox hb; replace aa := am (Kd.V_below (Kd.V_elderB (vT aa.out) aw (Nat.le_of_eq hg.symm)) hb); replace ab := am (Kd.V_below (Kd.V_elderB (vT ab.out) aw (Nat.le_of_eq hg.symm)) hb); have ac := am (hbox); have db := am ((gT hg HB.out)); have dc := am ((gT hg HB.out)); replace HB := am (sT HB.out hb); clear hb hbox hg) | ((with_reducible refine gate_dst (N := 4) rfl ?_); refine box_event ?hg (N := 4) ?hd (cs := #[.string a1_0, .string a1_1]) (t := 27) ?hr ?_; (case hd => rfl); (case hg => rfl); (case hr => first | (go_simp; done) | (go_simp; rfl)); intro ai hg w73 hbox hb; replace aa := am (Kd.V_below (Kd.V_elderB (vT aa.out) ai (Nat.le_of_eq hg.symm)) hb); replace ab := am (Kd.V_below (Kd.V_elderB (vT ab.out) ai (Nat.le_of_eq hg.symm)) hb); have ad := am (hbox); have dd := am ((gT hg HB.out)); have de := am ((gT hg HB.out)); have bf := am ((nT ac.out hg)); have bg := am ((mT ac.out hg)); replace ac := am (bB ac.out hb); replace HB := am (sT HB.out hb); clear hb hbox hg) | ((with_reducible refine gate_dst (N := 6) rfl ?_); refine box_event ?hg (N := 6) ?hd (cs := #[.slice none 0 0, .slice none 0 0]) (t := 25) ?hr ?_; (case hd => rfl); (case hg => rfl); (case hr => first | (go_simp; done) | (go_simp; rfl)); intro al hg w74 hbox hb; replace aa := am (Kd.V_below (Kd.V_elderB (vT aa.out) al (Nat.le_of_eq hg.symm)) hb); replace ab := am (Kd.V_below (Kd.V_elderB (vT ab.out) al (Nat.le_of_eq hg.symm)) hb); have ag := am (hbox); have df := am ((gT hg HB.out)); have dg := am ((gT hg HB.out)); have bh := am ((nT ac.out hg)); have bi := am ((mT ac.out hg)); have bj := am ((nT ad.out hg)); have bk := am ((mT ad.out hg)); replace ac := am (bB ac.out hb); replace ad := am (bB ad.out hb); replace HB := am (sT HB.out hb); clear hb hbox hg; have go := bf.out; have gp := bg.out; have gq := bh.out; have gr := bi.out; have eN : w74.cell? ⟨aw, 0, none⟩ = some (.slice aq l0_0.length ar) := cT ac 0; have eO : w74.cell? ⟨aw, 1, none⟩ = some (.slice au l0_1.length av) := cT ac 1; have eP := blk_frozen ac.out 0; have eQ := blk_frozen ac.out 1; have gs := bj.out; have gt := bk.out; have eR : w74.cell? ⟨ai, 0, none⟩ = some (.string a1_0) := cT ad 0; have eS : w74.cell? ⟨ai, 1, none⟩ = some (.string a1_1) := cT ad 1; have eV := blk_frozen ad.out 0; have eW := blk_frozen ad.out 1) | ((with_reducible refine gate_callee (f := 18) rfl ?_); refine gL (some 15) Tryd.func18 #[.agg #[.slice aq l0_0.length ar, .slice au l0_1.length av], .agg #[.string a1_0, .string a1_1]] ?_; (with_reducible refine (store_find.calls k _ _ l0_0 _ _ l0_1 a1_0 a1_1 aF cw bU _ ?side1 ?side2 ?side3 ?side4 A4.out).mono ?_); (case side1 => repeat (first | exact (Kd.V_reads' aa.out).2.2 | (with_reducible refine Kd.C_alloc ?_ _) | (with_reducible refine Kd.C_drewN ?_ _) | (with_reducible refine Kd.C_drew ?_))); (case side2 => exact (Kd.V_reads' aa.out).2.1); (case side3 => repeat (first | exact (Kd.V_reads' ab.out).2.2 | (with_reducible refine Kd.C_alloc ?_ _) | (with_reducible refine Kd.C_drewN ?_ _) | (with_reducible refine Kd.C_drew ?_))); (case side4 => exact (Kd.V_reads' ab.out).2.1); rintro e w80 ⟨rfl, hb⟩; refine ⟨_, rfl, ?_⟩; replace aa := am (vB aa.out hb); replace ab := am (vB ab.out hb); replace ac := am (bB ac.out hb); replace ad := am (bB ad.out hb); replace ag := am (bB ag.out hb); replace HB := am (sT HB.out hb); (try clear hb); (try clear hb2); (try clear hk); (try clear hi); have eX : w80.cell? ⟨aw, 0, none⟩ = some (.slice aq l0_0.length ar) := cT ac 0; have eY : w80.cell? ⟨aw, 1, none⟩ = some (.slice au l0_1.length av) := cT ac 1; have eZ := blk_frozen ac.out 0; have e0 := blk_frozen ac.out 1; have e1 : w80.cell? ⟨al, 0, none⟩ = some (.slice none 0 0) := cT ag 0; have e2 : w80.cell? ⟨al, 1, none⟩ = some (.slice none 0 0) := cT ag 1; have e3 := blk_frozen ag.out 0; have e4 := blk_frozen ag.out 1))
  refine bodyPost_ret (results_ct rfl _ _ al 25 #[.slice aq l0_0.length ar, .slice au l0_1.length av] (0, 0) _ rfl (by (with_reducible repeat (first | apply bn | apply bd | apply ba)); refine blk_put (cs := #[.slice aq l0_0.length ar, .slice none 0 0]) ?_ 1 _ rfl; (with_reducible repeat (first | apply bn | apply bd | apply ba)); refine blk_put (cs := #[.slice none 0 0, .slice none 0 0]) ?_ 0 _ rfl; exact bT ag.out) Tryd.underlying25 rfl (by kernel_rfl)) rfl ?_
  exact ⟨_, _, by first | rfl | (simp [errW_none, errW_some] <;> rfl) | (simp [*, errW_none, errW_some] <;> rfl), by (with_reducible repeat (first | apply Kd.V_alloc | apply Kd.V_drewN | apply Kd.V_drew)); exact Kd.V_mono (Kd.V_far (p := ⟨al, 1, none⟩) (Kd.V_far (p := ⟨al, 0, none⟩) (Kd.V_mono aa.out (fun k_ hk => (⟨hk, hk.2⟩ : _ ∧ k_ ≠ al))) (fun _ hk => hk.2) (.slice aq l0_0.length ar)) (fun _ hk => hk.2) (.slice au l0_1.length av)) (fun _ hk => hk.1.1.1.1), by (with_reducible repeat (first | apply Kd.V_alloc | apply Kd.V_drewN | apply Kd.V_drew)); exact Kd.V_mono (Kd.V_far (p := ⟨al, 1, none⟩) (Kd.V_far (p := ⟨al, 0, none⟩) (Kd.V_mono ab.out (fun k_ hk => (⟨hk, hk.2⟩ : _ ∧ k_ ≠ al))) (fun _ hk => hk.2) (.slice aq l0_0.length ar)) (fun _ hk => hk.2) (.slice au l0_1.length av)) (fun _ hk => hk.1.1.1.1), by repeat (first | (with_reducible first | exact HB.out | apply pA | apply pN | apply pD | refine eU ?_ (by assumption)) | exact HB.out)⟩

/-! ### store_Get: function 11 -/
def store_Get.f (k : Nat) (l0_0 : List (S27)) (l0_1 : List ByteArray) (a1_0 : ByteArray) (a1_1 : ByteArray) : Option (ByteArray × Int) := (store_find.f k l0_0 l0_1 a1_0 a1_1).bind fun bt289 => (if bt289.2.2 = 0 then (if bt289.2.1 = true then (if 0 ≤ bt289.1 then (if bt289.1 < (l0_1.length : Int) then (some (rdOf ByteArray.empty l0_1 bt289.1, 0)) else (none)) else (none)) else (some ((⟨#[]⟩ : ByteArray), 2))) else (some ((⟨#[]⟩ : ByteArray), bt289.2.2)))
theorem store_Get.mono : ∀ a0 a1 a2 a3 k, LeO (store_Get.f k a0 a1 a2 a3) (store_Get.f (k + 1) a0 a1 a2 a3) := by
 intro a0 a1 a2 a3 k
 unfold store_Get.f
 repeat' first
   | (with_reducible exact store_find.mono _ _ _ _ _)
   | (with_reducible exact LeO.refl _)
   | (with_reducible exact LeO.none _)
   | (with_reducible refine LeO.ite ?_ ?_)
   | (with_reducible refine LeO.bind ?_ (fun _ => ?_))
   | exact store_find.mono _ _ _ _ _
   | exact LeO.none _
   | refine LeO.ite ?_ ?_
   | refine LeO.bind ?_ (fun _ => ?_)
set_option maxHeartbeats 8000000 in
set_option maxRecDepth 100000 in
theorem store_Get.calls (k : Nat) (aq : Option Addr) (ar : Nat) (l0_0 : List (S27)) (au : Option Addr) (av : Nat) (l0_1 : List ByteArray) (a1_0 : ByteArray) (a1_1 : ByteArray) (r1 : ByteArray) (r2 : Int) (w : World) (hr0_0 : Kd.C k27 w aq l0_0.length l0_0) (hc0_0 : l0_0.length ≤ ar) (hr0_1 : Kd.C Kd.string w au l0_1.length l0_1) (hc0_1 : l0_1.length ≤ av) (h : store_Get.f k l0_0 l0_1 a1_0 a1_1 = some (r1, r2)) :
  Calls Tryd.prog 11 #[.agg #[.slice aq l0_0.length ar, .slice au l0_1.length av], .agg #[.string a1_0, .string a1_1]] w fun e w' => e = .returned (.tuple #[.string r1, .int .i64 r2]) ∧ Below w.heap.size w w' := by
 have hu25 := Tryd.underlying25
 have hu27 := Tryd.underlying27
 have b3 := Aside0.mk hr0_0
 have b4 := Aside0.mk hc0_0
 clear hr0_0 hc0_0
 have bZ := Aside0.mk hr0_1
 have b5 := Aside0.mk hc0_1
 clear hr0_1 hc0_1
 have HB := am (Below.refl w.heap.size w)
 have H : ((store_find.f k l0_0 l0_1 a1_0 a1_1).bind fun bt289 => (if bt289.2.2 = 0 then (if bt289.2.1 = true then (if 0 ≤ bt289.1 then (if bt289.1 < (l0_1.length : Int) then (some (rdOf ByteArray.empty l0_1 bt289.1, 0)) else (none)) else (none)) else (some ((⟨#[]⟩ : ByteArray), 2))) else (some ((⟨#[]⟩ : ByteArray), bt289.2.2)))) = some (r1, r2) := h
 clear h
 replace H := Option.bind_eq_some_iff.mp H
 obtain ⟨⟨bJ, dw, bW⟩, A30, H⟩ := H
 replace H : (if bW = 0 then (if dw = true then (if 0 ≤ bJ then (if bJ < (l0_1.length : Int) then (some (rdOf ByteArray.empty l0_1 bJ, 0)) else (none)) else (none)) else (some ((⟨#[]⟩ : ByteArray), 2))) else (some ((⟨#[]⟩ : ByteArray), bW))) = some (r1, r2) := H
 have A3 := Aside0.mk A30
 clear A30
 by_cases c4 : bW = 0
 ·rw [if_pos c4] at H
  have dx : (bW == 0) = true := beq_iff_eq.mpr c4
  have dy : (bW != 0) = false := bne_eq_false_iff_eq.mpr c4
  clear c4
  by_cases c5 : dw = true
  ·subst c5
   have H1 : (if 0 ≤ bJ then (if bJ < (l0_1.length : Int) then (some (rdOf ByteArray.empty l0_1 bJ, 0)) else (none)) else (none)) = some (r1, r2) := by rw [if_pos rfl] at H; exact H
   clear H
   have H := H1
   clear H1
   by_cases c6 : 0 ≤ bJ
   ·rw [if_pos c6] at H
    have gR : decide (0 ≤ bJ) = true := decide_eq_true c6
    clear c6
    by_cases c7 : bJ < (l0_1.length : Int)
    ·rw [if_pos c7] at H
     have gU : decide (bJ < (l0_1.length : Int)) = true := decide_eq_true c7
     clear c7
     simp only [Option.some.injEq, Prod.mk.injEq] at H
     obtain ⟨rfl, rfl⟩ := H
     go_enter Tryd.func11, Tryd.ntmps11
     go_wp2_with (first | ((with_reducible refine gate_dst (N := 2) rfl ?_); refine box_event ?hg (N := 2) ?hd (cs := #[.slice aq l0_0.length ar, .slice au l0_1.length av]) (t := 25) ?hr ?_; (case hd => rfl); (case hg => rfl); (case hr => first | (go_simp; done) | (go_simp; rfl)); intro bK hg w8 hbox hb; have aA := am (hbox); have di := am ((gT hg HB.out)); have dj := am ((gT hg HB.out)); replace HB := am (sT HB.out hb); clear hb hbox hg) | ((with_reducible refine gate_dst (N := 3) rfl ?_); refine box_event ?hg (N := 3) ?hd (cs := #[.string a1_0, .string a1_1]) (t := 27) ?hr ?_; (case hd => rfl); (case hg => rfl); (case hr => first | (go_simp; done) | (go_simp; rfl)); intro bO hg w9 hbox hb; have aO := am (hbox); have dk := am ((gT hg HB.out)); have dl := am ((gT hg HB.out)); have bp := am ((nT aA.out hg)); have bq := am ((mT aA.out hg)); replace aA := am (bB aA.out hb); replace HB := am (sT HB.out hb); clear hb hbox hg; have gu := bp.out; have gv := bq.out; have e5 : w9.cell? ⟨bK, 0, none⟩ = some (.slice aq l0_0.length ar) := cT aA 0; have e6 : w9.cell? ⟨bK, 1, none⟩ = some (.slice au l0_1.length av) := cT aA 1; have e7 := blk_frozen aA.out 0; have e8 := blk_frozen aA.out 1; have e9 : w9.cell? ⟨bO, 0, none⟩ = some (.string a1_0) := cT aO 0; have fa : w9.cell? ⟨bO, 1, none⟩ = some (.string a1_1) := cT aO 1; have fb := blk_frozen aO.out 0; have fc := blk_frozen aO.out 1) | ((with_reducible refine gate_callee (f := 18) rfl ?_); refine gL (some 12) Tryd.func18 #[.agg #[.slice aq l0_0.length ar, .slice au l0_1.length av], .agg #[.string a1_0, .string a1_1]] ?_; (with_reducible refine (store_find.calls k _ _ l0_0 _ _ l0_1 a1_0 a1_1 bJ true bW _ ?side1 ?side2 ?side3 ?side4 A3.out).mono ?_); (case side1 => repeat (first | exact (Kd.C_below b3.out HB.out) | (with_reducible refine Kd.C_alloc ?_ _) | (with_reducible refine Kd.C_drewN ?_ _) | (with_reducible refine Kd.C_drew ?_))); (case side2 => exact b4.out); (case side3 => repeat (first | exact (Kd.C_below bZ.out HB.out) | (with_reducible refine Kd.C_alloc ?_ _) | (with_reducible refine Kd.C_drewN ?_ _) | (with_reducible refine Kd.C_drew ?_))); (case side4 => exact b5.out); rintro e w13 ⟨rfl, hb⟩; refine ⟨_, rfl, ?_⟩; replace aA := am (bB aA.out hb); replace aO := am (bB aO.out hb); replace HB := am (sT HB.out hb); (try clear hb); (try clear hb2); (try clear hk); (try clear hi); have cU : w13.cell? ⟨bK, 0, none⟩ = some (.slice aq l0_0.length ar) := cT aA 0; have cV : w13.cell? ⟨bK, 1, none⟩ = some (.slice au l0_1.length av) := cT aA 1; have cW := blk_frozen aA.out 0; have cX := blk_frozen aA.out 1; have p292 : 0 ≤ (bJ : Int) := of_decide_eq_true (by first | (with_reducible assumption) | assumption); have q292 : bJ < (l0_1.length : Int) := of_decide_eq_true (by first | (with_reducible assumption) | assumption); obtain ⟨ad292, e292, b2⟩ := Kd.at_string bZ.out bJ p292 q292; cases e292; replace b2 := (HB.out.cell (World.block_lt_of_cell? w _ b2)).trans b2; replace p292 := eq_true p292; replace q292 := eq_true q292))
     go_ret2
     exact ⟨by first | rfl | (simp [errW_none, errW_some] <;> rfl) | (simp [*, errW_none, errW_some] <;> rfl), eT HB.out⟩
    ·rw [if_neg c7] at H
     exact absurd H (by simp)
   ·rw [if_neg c6] at H
    exact absurd H (by simp)
  ·replace c5 := Bool.eq_false_iff.mpr c5
   subst c5
   have H1 : (some ((⟨#[]⟩ : ByteArray), 2)) = some (r1, r2) := by rw [if_neg (show ¬ (false = true) by decide)] at H; exact H
   clear H
   have H := H1
   clear H1
   simp only [Option.some.injEq, Prod.mk.injEq] at H
   obtain ⟨rfl, rfl⟩ := H
   go_enter Tryd.func11, Tryd.ntmps11
   go_wp2_with (first | ((with_reducible refine gate_dst (N := 2) rfl ?_); refine box_event ?hg (N := 2) ?hd (cs := #[.slice aq l0_0.length ar, .slice au l0_1.length av]) (t := 25) ?hr ?_; (case hd => rfl); (case hg => rfl); (case hr => first | (go_simp; done) | (go_simp; rfl)); intro bK hg w15 hbox hb; have aA := am (hbox); have di := am ((gT hg HB.out)); have dj := am ((gT hg HB.out)); replace HB := am (sT HB.out hb); clear hb hbox hg) | ((with_reducible refine gate_dst (N := 3) rfl ?_); refine box_event ?hg (N := 3) ?hd (cs := #[.string a1_0, .string a1_1]) (t := 27) ?hr ?_; (case hd => rfl); (case hg => rfl); (case hr => first | (go_simp; done) | (go_simp; rfl)); intro bO hg w16 hbox hb; have aO := am (hbox); have dk := am ((gT hg HB.out)); have dl := am ((gT hg HB.out)); have bp := am ((nT aA.out hg)); have bq := am ((mT aA.out hg)); replace aA := am (bB aA.out hb); replace HB := am (sT HB.out hb); clear hb hbox hg; have dD := bp.out; have dE := bq.out; have ca : w16.cell? ⟨bK, 0, none⟩ = some (.slice aq l0_0.length ar) := cT aA 0; have cb : w16.cell? ⟨bK, 1, none⟩ = some (.slice au l0_1.length av) := cT aA 1; have cc := blk_frozen aA.out 0; have cd := blk_frozen aA.out 1; have fd : w16.cell? ⟨bO, 0, none⟩ = some (.string a1_0) := cT aO 0; have fe : w16.cell? ⟨bO, 1, none⟩ = some (.string a1_1) := cT aO 1; have ff := blk_frozen aO.out 0; have fg := blk_frozen aO.out 1) | ((with_reducible refine gate_callee (f := 18) rfl ?_); refine gL (some 12) Tryd.func18 #[.agg #[.slice aq l0_0.length ar, .slice au l0_1.length av], .agg #[.string a1_0, .string a1_1]] ?_; (with_reducible refine (store_find.calls k _ _ l0_0 _ _ l0_1 a1_0 a1_1 bJ false bW _ ?side1 ?side2 ?side3 ?side4 A3.out).mono ?_); (case side1 => repeat (first | exact (Kd.C_below b3.out HB.out) | (with_reducible refine Kd.C_alloc ?_ _) | (with_reducible refine Kd.C_drewN ?_ _) | (with_reducible refine Kd.C_drew ?_))); (case side2 => exact b4.out); (case side3 => repeat (first | exact (Kd.C_below bZ.out HB.out) | (with_reducible refine Kd.C_alloc ?_ _) | (with_reducible refine Kd.C_drewN ?_ _) | (with_reducible refine Kd.C_drew ?_))); (case side4 => exact b5.out); rintro e w20 ⟨rfl, hb⟩; refine ⟨_, rfl, ?_⟩; replace aA := am (bB aA.out hb); replace aO := am (bB aO.out hb); replace HB := am (sT HB.out hb); (try clear hb); (try clear hb2); (try clear hk); (try clear hi)))
   go_ret2
   exact ⟨by first | rfl | (simp [errW_none, errW_some] <;> rfl) | (simp [*, errW_none, errW_some] <;> rfl), eT HB.out⟩
 ·rw [if_neg c4] at H
  have dx : (bW == 0) = false := beq_eq_false_iff_ne.mpr c4
  have dy : (bW != 0) = true := bne_iff_ne.mpr c4
  simp only [Option.some.injEq, Prod.mk.injEq] at H
  obtain ⟨rfl, rfl⟩ := H
  go_enter Tryd.func11, Tryd.ntmps11
  go_wp2_with (first | ((with_reducible refine gate_dst (N := 2) rfl ?_); refine box_event ?hg (N := 2) ?hd (cs := #[.slice aq l0_0.length ar, .slice au l0_1.length av]) (t := 25) ?hr ?_; (case hd => rfl); (case hg => rfl); (case hr => first | (go_simp; done) | (go_simp; rfl)); intro bK hg w21 hbox hb; have aA := am (hbox); have di := am ((gT hg HB.out)); have dj := am ((gT hg HB.out)); replace HB := am (sT HB.out hb); clear hb hbox hg) | ((with_reducible refine gate_dst (N := 3) rfl ?_); refine box_event ?hg (N := 3) ?hd (cs := #[.string a1_0, .string a1_1]) (t := 27) ?hr ?_; (case hd => rfl); (case hg => rfl); (case hr => first | (go_simp; done) | (go_simp; rfl)); intro bO hg w22 hbox hb; have aO := am (hbox); have dk := am ((gT hg HB.out)); have dl := am ((gT hg HB.out)); have bp := am ((nT aA.out hg)); have bq := am ((mT aA.out hg)); replace aA := am (bB aA.out hb); replace HB := am (sT HB.out hb); clear hb hbox hg; have d1 := bp.out; have d2 := bq.out; have fh : w22.cell? ⟨bK, 0, none⟩ = some (.slice aq l0_0.length ar) := cT aA 0; have fi : w22.cell? ⟨bK, 1, none⟩ = some (.slice au l0_1.length av) := cT aA 1; have fj := blk_frozen aA.out 0; have fk := blk_frozen aA.out 1; have cY : w22.cell? ⟨bO, 0, none⟩ = some (.string a1_0) := cT aO 0; have cZ : w22.cell? ⟨bO, 1, none⟩ = some (.string a1_1) := cT aO 1; have c0 := blk_frozen aO.out 0; have c1 := blk_frozen aO.out 1) | ((with_reducible refine gate_callee (f := 18) rfl ?_); refine gL (some 12) Tryd.func18 #[.agg #[.slice aq l0_0.length ar, .slice au l0_1.length av], .agg #[.string a1_0, .string a1_1]] ?_; (with_reducible refine (store_find.calls k _ _ l0_0 _ _ l0_1 a1_0 a1_1 bJ dw bW _ ?side1 ?side2 ?side3 ?side4 A3.out).mono ?_); (case side1 => repeat (first | exact (Kd.C_below b3.out HB.out) | (with_reducible refine Kd.C_alloc ?_ _) | (with_reducible refine Kd.C_drewN ?_ _) | (with_reducible refine Kd.C_drew ?_))); (case side2 => exact b4.out); (case side3 => repeat (first | exact (Kd.C_below bZ.out HB.out) | (with_reducible refine Kd.C_alloc ?_ _) | (with_reducible refine Kd.C_drewN ?_ _) | (with_reducible refine Kd.C_drew ?_))); (case side4 => exact b5.out); rintro e w26 ⟨rfl, hb⟩; refine ⟨_, rfl, ?_⟩; replace aA := am (bB aA.out hb); replace aO := am (bB aO.out hb); replace HB := am (sT HB.out hb); (try clear hb); (try clear hb2); (try clear hk); (try clear hi)))
  go_ret2
  exact ⟨by first | rfl | (simp [errW_none, errW_some] <;> rfl) | (simp [*, errW_none, errW_some] <;> rfl), eT HB.out⟩

-- HAND: api_Node_22: with the text above

-- HAND: slices_Delete_string_string: with the text above

/-! ### store_Drop: function 12 -/
def store_Drop.f (k : Nat) (l0_0 : List (S27)) (l0_1 : List ByteArray) (a1_0 : ByteArray) (a1_1 : ByteArray) : Option ((List (S27)) × List ByteArray × Int) := (store_find.f k l0_0 l0_1 a1_0 a1_1).bind fun bt296 => (if bt296.2.2 = 0 then (if bt296.2.1 = true then ((store_own.f l0_0 l0_1).bind fun bt299 => ((api_Node_22.f bt299.1 bt296.1 (wrap64 (bt296.1 + 1))).bind fun bE => ((slices_Delete_string_string.f bt299.2 bt296.1 (wrap64 (bt296.1 + 1))).bind fun bF => (some (bE, bF, 0))))) else (some (l0_0, l0_1, 2))) else (some (l0_0, l0_1, bt296.2.2)))
theorem store_Drop.mono : ∀ a0 a1 a2 a3 k, LeO (store_Drop.f k a0 a1 a2 a3) (store_Drop.f (k + 1) a0 a1 a2 a3) := by
 intro a0 a1 a2 a3 k
 unfold store_Drop.f
 repeat' first
   | (with_reducible exact store_find.mono _ _ _ _ _)
   | (with_reducible exact LeO.refl _)
   | (with_reducible exact LeO.none _)
   | (with_reducible refine LeO.ite ?_ ?_)
   | (with_reducible refine LeO.bind ?_ (fun _ => ?_))
   | exact store_find.mono _ _ _ _ _
   | exact LeO.none _
   | refine LeO.ite ?_ ?_
   | refine LeO.bind ?_ (fun _ => ?_)
def store_Drop.T7 : Bool × List (List Nat × List Nat) := (true, [([], []), ([0], [0]), ([], []), ([], []), ([3], [3]), ([1, 2, 4], [1, 2, 4]), ([], []), ([6], [6]), ([], []), ([], []), ([9], [9]), ([7, 8, 10, 5], [7, 8, 10]), ([0, 1, 2, 3, 4, 5, 6, 7], []), ([12, 5, 11, 0, 1, 2, 3, 4, 5, 6, 7], [5, 12]), ([0, 1, 2, 3, 4, 5, 6, 7, 8, 9, 10, 11, 12, 13], []), ([14, 11, 13, 0, 1, 2, 3, 4, 5, 6, 7, 8, 9, 10, 11, 12, 13], [11, 14])])
def store_Drop.B7 : List Nat := [0, 1, 0, 0, 8, 31, 0, 64, 0, 0, 512, 2047, 255, 8191, 16383, 32767]
theorem store_Drop.tab7 : rtab .any (opsOf Tryd.f12 7) = store_Drop.T7 := by kernel_rfl
theorem store_Drop.bits7 : waitsOk store_Drop.T7.2 store_Drop.B7 = true := by kernel_rfl
set_option maxHeartbeats 8000000 in
set_option maxRecDepth 100000 in
theorem store_Drop.calls (k : Nat) (P0_0_ : Nat → Prop) (aq : Option Addr) (ar : Nat) (l0_0 : List (S27)) (P0_1_ : Nat → Prop) (au : Option Addr) (av : Nat) (l0_1 : List ByteArray) (a1_0 : ByteArray) (a1_1 : ByteArray) (r1 : List (S27)) (r2 : List ByteArray) (r3 : Int) (w : World) (cl : Kd.V k27 27 w w.heap.size (fun k_ => P0_0_ k_) (.slice aq l0_0.length ar) l0_0) (cm : Kd.V Kd.string 9 w w.heap.size (fun k_ => P0_1_ k_) (.slice au l0_1.length av) l0_1) (h : store_Drop.f k l0_0 l0_1 a1_0 a1_1 = some (r1, r2, r3)) :
  Calls Tryd.prog 12 #[.agg #[.slice aq l0_0.length ar, .slice au l0_1.length av], .agg #[.string a1_0, .string a1_1]] w fun e w' => ∃ v0_ v1_ : Value, e = .returned (.tuple #[.agg #[v0_, v1_], .int .i64 r3]) ∧ Kd.V k27 27 w' w.heap.size (fun k_ => ((P0_0_ k_ ∨ P0_1_ k_) ∨ w.heap.size ≤ k_)) v0_ r1 ∧ Kd.V Kd.string 9 w' w.heap.size (fun k_ => ((P0_0_ k_ ∨ P0_1_ k_) ∨ w.heap.size ≤ k_)) v1_ r2 ∧ Below w.heap.size w w' := by
 have hu25 := Tryd.underlying25
 have hu27 := Tryd.underlying27
 have aa := am (show Kd.V k27 27 w w.heap.size (fun k_ => ((P0_0_ k_ ∨ P0_1_ k_) ∨ w.heap.size ≤ k_)) (.slice aq l0_0.length ar) l0_0 from Kd.V_mono cl (fun k_ hk => .inl (.inl hk)))
 have ab := am (show Kd.V Kd.string 9 w w.heap.size (fun k_ => ((P0_0_ k_ ∨ P0_1_ k_) ∨ w.heap.size ≤ k_)) (.slice au l0_1.length av) l0_1 from Kd.V_mono cm (fun k_ hk => .inl (.inr hk)))
 have HB := am (Below.refl w.heap.size w)
 have H : ((store_find.f k l0_0 l0_1 a1_0 a1_1).bind fun bt296 => (if bt296.2.2 = 0 then (if bt296.2.1 = true then ((store_own.f l0_0 l0_1).bind fun bt299 => ((api_Node_22.f bt299.1 bt296.1 (wrap64 (bt296.1 + 1))).bind fun bE => ((slices_Delete_string_string.f bt299.2 bt296.1 (wrap64 (bt296.1 + 1))).bind fun bF => (some (bE, bF, 0))))) else (some (l0_0, l0_1, 2))) else (some (l0_0, l0_1, bt296.2.2)))) = some (r1, r2, r3) := h
 clear h
 replace H := Option.bind_eq_some_iff.mp H
 obtain ⟨⟨a5, dz, bX⟩, A30, H⟩ := H
 replace H : (if bX = 0 then (if dz = true then ((store_own.f l0_0 l0_1).bind fun bt299 => ((api_Node_22.f bt299.1 a5 (wrap64 (a5 + 1))).bind fun bE => ((slices_Delete_string_string.f bt299.2 a5 (wrap64 (a5 + 1))).bind fun bF => (some (bE, bF, 0))))) else (some (l0_0, l0_1, 2))) else (some (l0_0, l0_1, bX))) = some (r1, r2, r3) := H
 have A3 := Aside0.mk A30
 clear A30
 by_cases c4 : bX = 0
 ·rw [if_pos c4] at H
  have dx : (bX == 0) = true := beq_iff_eq.mpr c4
  have dy : (bX != 0) = false := bne_eq_false_iff_eq.mpr c4
  clear c4
  by_cases c5 : dz = true
  ·subst c5
   have H1 : ((store_own.f l0_0 l0_1).bind fun bt299 => ((api_Node_22.f bt299.1 a5 (wrap64 (a5 + 1))).bind fun bE => ((slices_Delete_string_string.f bt299.2 a5 (wrap64 (a5 + 1))).bind fun bF => (some (bE, bF, 0))))) = some (r1, r2, r3) := by rw [if_pos rfl] at H; exact H
   clear H
   have H := H1
   clear H1
   replace H := Option.bind_eq_some_iff.mp H
   obtain ⟨⟨aQ, aN⟩, A60, H⟩ := H
   replace H : ((api_Node_22.f aQ a5 (wrap64 (a5 + 1))).bind fun bE => ((slices_Delete_string_string.f aN a5 (wrap64 (a5 + 1))).bind fun bF => (some (bE, bF, 0)))) = some (r1, r2, r3) := H
   have A6 := Aside0.mk A60
   clear A60
   replace H := Option.bind_eq_some_iff.mp H
   obtain ⟨bE, A70, H⟩ := H
   replace H : ((slices_Delete_string_string.f aN a5 (wrap64 (a5 + 1))).bind fun bF => (some (bE, bF, 0))) = some (r1, r2, r3) := H
   have A7 := Aside0.mk A70
   clear A70
   replace H := Option.bind_eq_some_iff.mp H
   obtain ⟨bF, A80, H⟩ := H
   replace H : (some (bE, bF, 0)) = some (r1, r2, r3) := H
   have A8 := Aside0.mk A80
   clear A80
   simp only [Option.some.injEq, Prod.mk.injEq] at H
   obtain ⟨rfl, rfl, rfl⟩ := H
   go_enter Tryd.func12, Tryd.ntmps12
   try go_wp2_with (first | ((with_reducible refine gate_dst (N := 2) rfl ?_); refine box_event ?hg (N := 2) ?hd (cs := #[.slice aq l0_0.length ar, .slice au l0_1.length av]) (t := 25) ?hr ?_; (case hd => rfl); (case hg => rfl); (case hr => first | (go_simp; done) | (go_simp; rfl)); intro aH hg w9 hbox hb; replace aa := am (Kd.V_below (Kd.V_elderB (vT aa.out) aH (Nat.le_of_eq hg.symm)) hb); replace ab := am (Kd.V_below (Kd.V_elderB (vT ab.out) aH (Nat.le_of_eq hg.symm)) hb); have ah := am (hbox); have dm := am ((gT hg HB.out)); have dn := am ((gT hg HB.out)); replace HB := am (sT HB.out hb); clear hb hbox hg) | ((with_reducible refine gate_dst (N := 3) rfl ?_); refine box_event ?hg (N := 3) ?hd (cs := #[.string a1_0, .string a1_1]) (t := 27) ?hr ?_; (case hd => rfl); (case hg => rfl); (case hr => first | (go_simp; done) | (go_simp; rfl)); intro aI hg w10 hbox hb; replace aa := am (Kd.V_below (Kd.V_elderB (vT aa.out) aI (Nat.le_of_eq hg.symm)) hb); replace ab := am (Kd.V_below (Kd.V_elderB (vT ab.out) aI (Nat.le_of_eq hg.symm)) hb); have ao := am (hbox); have dp := am ((gT hg HB.out)); have dq := am ((gT hg HB.out)); have br := am ((nT ah.out hg)); have bs := am ((mT ah.out hg)); replace ah := am (bB ah.out hb); replace HB := am (sT HB.out hb); clear hb hbox hg) | ((with_reducible refine gate_dst (N := 4) rfl ?_); refine box_event ?hg (N := 4) ?hd (cs := #[.slice none 0 0, .slice none 0 0]) (t := 25) ?hr ?_; (case hd => rfl); (case hg => rfl); (case hr => first | (go_simp; done) | (go_simp; rfl)); intro az hg w11 hbox hb; replace aa := am (Kd.V_below (Kd.V_elderB (vT aa.out) az (Nat.le_of_eq hg.symm)) hb); replace ab := am (Kd.V_below (Kd.V_elderB (vT ab.out) az (Nat.le_of_eq hg.symm)) hb); have ay := am (hbox); have dr := am ((gT hg HB.out)); have dt := am ((gT hg HB.out)); have bt := am ((nT ah.out hg)); have bu := am ((mT ah.out hg)); have bv := am ((nT ao.out hg)); have bw := am ((mT ao.out hg)); replace ah := am (bB ah.out hb); replace ao := am (bB ao.out hb); replace HB := am (sT HB.out hb); clear hb hbox hg; have gw := br.out; have gx := bs.out; have gy := bt.out; have gz := bu.out; have cU : w11.cell? ⟨aH, 0, none⟩ = some (.slice aq l0_0.length ar) := cT ah 0; have cV : w11.cell? ⟨aH, 1, none⟩ = some (.slice au l0_1.length av) := cT ah 1; have cW := blk_frozen ah.out 0; have cX := blk_frozen ah.out 1; have dB := bv.out; have dC := bw.out; have cx : w11.cell? ⟨aI, 0, none⟩ = some (.string a1_0) := cT ao 0; have cy : w11.cell? ⟨aI, 1, none⟩ = some (.string a1_1) := cT ao 1; have cz := blk_frozen ao.out 0; have cA := blk_frozen ao.out 1) | ((with_reducible refine gate_callee (f := 18) rfl ?_); refine gL (some 13) Tryd.func18 #[.agg #[.slice aq l0_0.length ar, .slice au l0_1.length av], .agg #[.string a1_0, .string a1_1]] ?_; (with_reducible refine (store_find.calls k _ _ l0_0 _ _ l0_1 a1_0 a1_1 a5 true bX _ ?side1 ?side2 ?side3 ?side4 A3.out).mono ?_); (case side1 => repeat (first | exact (Kd.V_reads' aa.out).2.2 | (with_reducible refine Kd.C_alloc ?_ _) | (with_reducible refine Kd.C_drewN ?_ _) | (with_reducible refine Kd.C_drew ?_))); (case side2 => exact (Kd.V_reads' aa.out).2.1); (case side3 => repeat (first | exact (Kd.V_reads' ab.out).2.2 | (with_reducible refine Kd.C_alloc ?_ _) | (with_reducible refine Kd.C_drewN ?_ _) | (with_reducible refine Kd.C_drew ?_))); (case side4 => exact (Kd.V_reads' ab.out).2.1); rintro e w17 ⟨rfl, hb⟩; refine ⟨_, rfl, ?_⟩; replace aa := am (vB aa.out hb); replace ab := am (vB ab.out hb); replace ah := am (bB ah.out hb); replace ao := am (bB ao.out hb); replace ay := am (bB ay.out hb); replace HB := am (sT HB.out hb); (try clear hb); (try clear hb2); (try clear hk); (try clear hi); have ca : w17.cell? ⟨aH, 0, none⟩ = some (.slice aq l0_0.length ar) := cT ah 0; have cb : w17.cell? ⟨aH, 1, none⟩ = some (.slice au l0_1.length av) := cT ah 1; have cc := blk_frozen ah.out 0; have cd := blk_frozen ah.out 1) | ((with_reducible refine gate_callee (f := 19) rfl ?_); refine gL (some 27) Tryd.func19 #[.agg #[.slice aq l0_0.length ar, .slice au l0_1.length av]] ?_; (with_reducible refine (store_own.calls _ _ l0_0 _ _ l0_1 aQ aN _ ?side1 ?side2 ?side3 ?side4 A6.out).mono ?_); (case side1 => repeat (first | exact (Kd.V_reads' aa.out).2.2 | (with_reducible refine Kd.C_alloc ?_ _) | (with_reducible refine Kd.C_drewN ?_ _) | (with_reducible refine Kd.C_drew ?_))); (case side2 => exact (Kd.V_reads' aa.out).2.1); (case side3 => repeat (first | exact (Kd.V_reads' ab.out).2.2 | (with_reducible refine Kd.C_alloc ?_ _) | (with_reducible refine Kd.C_drewN ?_ _) | (with_reducible refine Kd.C_drew ?_))); (case side4 => exact (Kd.V_reads' ab.out).2.1); rintro e w19 ⟨gV, gW, rfl, ho0, ho1, hb⟩; refine ⟨_, rfl, ?_⟩; replace aa := am (Kd.V_mono (Kd.V_told (Kd.V_told (Kd.V_old (vT aa.out) hb) (Kd.R_base ho0)) (Kd.R_base ho1)) (fun _ h_ => h_.1)); replace ab := am (Kd.V_mono (Kd.V_told (Kd.V_told (Kd.V_old (vT ab.out) hb) (Kd.R_base ho0)) (Kd.R_base ho1)) (fun _ h_ => h_.1)); have aU := am (Kd.R_lower (Kd.R_newB (Kd.R_newM (M := fun k_ => (w.heap.size ≤ k_)) ho0 (below_size (eT HB.out)) (fun k_ h_ => h_)) (g := aI) (o := .cells #[.string a1_0, .string a1_1] 27 (0, 0)) (bT ao.out)) (below_size (eT HB.out))); have aR := am (Kd.R_lower (Kd.R_newM (M := fun k_ => (w.heap.size ≤ k_)) ho1 (below_size (eT HB.out)) (fun k_ h_ => h_)) (below_size (eT HB.out))); replace ah := am (bB ah.out hb); replace ay := am (bB ay.out hb); replace ao := am (bB ao.out hb); replace HB := am (sT HB.out hb); (try clear hb); (try clear hb2); (try clear hk); (try clear hi); (try clear ho0); (try clear ho1)) | ((with_reducible refine gate_dst (N := 9) rfl ?_); refine box_event ?hg (N := 9) ?hd (cs := #[.slice none 0 0, .slice none 0 0]) (t := 25) ?hr ?_; (case hd => rfl); (case hg => rfl); (case hr => first | (go_simp; done) | (go_simp; rfl)); intro ap hg w20 hbox hb; replace aa := am (Kd.V_below (Kd.V_elderB (vT aa.out) ap (Nat.le_of_eq hg.symm)) hb); replace ab := am (Kd.V_below (Kd.V_elderB (vT ab.out) ap (Nat.le_of_eq hg.symm)) hb); replace aU := am (rB aU.out hb); replace aR := am (rB aR.out hb); have aB := am (hbox); have gA := am ((gT hg HB.out)); have gB := am ((gT hg HB.out)); have bx := am ((nT ah.out hg)); have bL := am ((mT ah.out hg)); have bz := am ((nT ao.out hg)); have bM := am ((mT ao.out hg)); have aV := am ((nT ay.out hg)); have bN := am ((mT ay.out hg)); replace ah := am (bB ah.out hb); replace ao := am (bB ao.out hb); replace ay := am (bB ay.out hb); replace HB := am (sT HB.out hb); clear hb hbox hg; obtain ⟨a6, a7, f5⟩ := Kd.R_slice aU.out; subst f5; have gC := bL.out; have gD := bx.out; have d1 := bM.out; have d2 := bz.out; have dH := bN.out; have dI := aV.out; have cY : w20.cell? ⟨ap, 0, none⟩ = some (.slice none 0 0) := cT aB 0; have cZ : w20.cell? ⟨ap, 1, none⟩ = some (.slice none 0 0) := cT aB 1; have c0 := blk_frozen aB.out 0; have c1 := blk_frozen aB.out 1; obtain ⟨aY, aZ, f6⟩ := Kd.R_slice aR.out; subst f6))
   have n0_ : Aside0 (Kd.V k27 27 ((w20.setCell ⟨ap, 0, none⟩ (.slice a6 aQ.length a7)).setCell ⟨ap, 1, none⟩ (.slice aY aN.length aZ)) w.heap.size (fun k_ => ((P0_0_ k_ ∨ P0_1_ k_) ∨ w.heap.size ≤ k_) ∧ some k_ ≠ (.slice a6 aQ.length a7 : Value).ownBlock ∧ some k_ ≠ (.slice aY aN.length aZ : Value).ownBlock ∧ k_ ≠ aH ∧ k_ ≠ aI ∧ k_ ≠ az ∧ k_ ≠ ap) (.slice aq l0_0.length ar) l0_0) := ⟨by (with_reducible repeat (first | apply Kd.V_alloc | apply Kd.V_drewN | apply Kd.V_drew)); exact Kd.V_mono (Kd.V_far (p := ⟨ap, 1, none⟩) (Kd.V_far (p := ⟨ap, 0, none⟩) (Kd.V_mono aa.out (fun k_ hk => (⟨hk, hk.2⟩ : _ ∧ k_ ≠ ap))) (fun _ hk => hk.2) (.slice a6 aQ.length a7)) (fun _ hk => hk.2) (.slice aY aN.length aZ)) (fun _ hk => ⟨hk.1.1.1.1.1.1.1, ⟨hk.1.1.1.2, ⟨hk.1.1.2, ⟨hk.1.1.1.1.1.1.2, ⟨hk.1.1.1.1.1.2, ⟨hk.1.1.1.1.2, hk.1.2⟩⟩⟩⟩⟩⟩)⟩
   have n1_ : Aside0 (Kd.V Kd.string 9 ((w20.setCell ⟨ap, 0, none⟩ (.slice a6 aQ.length a7)).setCell ⟨ap, 1, none⟩ (.slice aY aN.length aZ)) w.heap.size (fun k_ => ((P0_0_ k_ ∨ P0_1_ k_) ∨ w.heap.size ≤ k_) ∧ some k_ ≠ (.slice a6 aQ.length a7 : Value).ownBlock ∧ some k_ ≠ (.slice aY aN.length aZ : Value).ownBlock ∧ k_ ≠ aH ∧ k_ ≠ aI ∧ k_ ≠ az ∧ k_ ≠ ap) (.slice au l0_1.length av) l0_1) := ⟨by (with_reducible repeat (first | apply Kd.V_alloc | apply Kd.V_drewN | apply Kd.V_drew)); exact Kd.V_mono (Kd.V_far (p := ⟨ap, 1, none⟩) (Kd.V_far (p := ⟨ap, 0, none⟩) (Kd.V_mono ab.out (fun k_ hk => (⟨hk, hk.2⟩ : _ ∧ k_ ≠ ap))) (fun _ hk => hk.2) (.slice a6 aQ.length a7)) (fun _ hk => hk.2) (.slice aY aN.length aZ)) (fun _ hk => ⟨hk.1.1.1.1.1.1.1, ⟨hk.1.1.1.2, ⟨hk.1.1.2, ⟨hk.1.1.1.1.1.1.2, ⟨hk.1.1.1.1.1.2, ⟨hk.1.1.1.1.2, hk.1.2⟩⟩⟩⟩⟩⟩)⟩
   have n2_ : Aside0 (Kd.R k27 27 ((w20.setCell ⟨ap, 0, none⟩ (.slice a6 aQ.length a7)).setCell ⟨ap, 1, none⟩ (.slice aY aN.length aZ)) w.heap.size (fun k_ => (w.heap.size ≤ k_) ∧ k_ ≠ aI) (.slice a6 aQ.length a7) aQ) := ⟨by (with_reducible repeat (first | apply Kd.R_alloc | apply Kd.R_drewN | apply Kd.R_drew)); exact Kd.R_mono (Kd.R_far (p := ⟨ap, 1, none⟩) (Kd.R_far (p := ⟨ap, 0, none⟩) (Kd.R_types aU.out aB.out (by decide)) (fun _ hk => hk.2) (.slice a6 aQ.length a7)) (fun _ hk => hk.2) (.slice aY aN.length aZ)) (fun _ hk => ⟨hk.1.1.1, hk.1.2⟩)⟩
   have n3_ : Aside0 (Kd.R Kd.string 9 ((w20.setCell ⟨ap, 0, none⟩ (.slice a6 aQ.length a7)).setCell ⟨ap, 1, none⟩ (.slice aY aN.length aZ)) w.heap.size (fun k_ => (w.heap.size ≤ k_)) (.slice aY aN.length aZ) aN) := ⟨by (with_reducible repeat (first | apply Kd.R_alloc | apply Kd.R_drewN | apply Kd.R_drew)); exact Kd.R_mono (Kd.R_far (p := ⟨ap, 1, none⟩) (Kd.R_far (p := ⟨ap, 0, none⟩) (Kd.R_types aR.out aB.out (by decide)) (fun _ hk => hk.2) (.slice a6 aQ.length a7)) (fun _ hk => hk.2) (.slice aY aN.length aZ)) (fun _ hk => hk.1.1)⟩
   have n4_ : Aside0 (((w20.setCell ⟨ap, 0, none⟩ (.slice a6 aQ.length a7)).setCell ⟨ap, 1, none⟩ (.slice aY aN.length aZ)).heap[aH]? = some (.cells #[.slice aq l0_0.length ar, .slice au l0_1.length av] 25 (0, 0))) := ⟨by (with_reducible repeat (first | apply bn | apply bd | apply ba)); refine blk_far ?_ bx.out _; (with_reducible repeat (first | apply bn | apply bd | apply ba)); refine blk_far ?_ bx.out _; exact bT ah.out⟩
   have n5_ : Aside0 (((w20.setCell ⟨ap, 0, none⟩ (.slice a6 aQ.length a7)).setCell ⟨ap, 1, none⟩ (.slice aY aN.length aZ)).heap[aI]? = some (.cells #[.string a1_0, .string a1_1] 27 (0, 0))) := ⟨by (with_reducible repeat (first | apply bn | apply bd | apply ba)); refine blk_far ?_ bz.out _; (with_reducible repeat (first | apply bn | apply bd | apply ba)); refine blk_far ?_ bz.out _; exact bT ao.out⟩
   have n6_ : Aside0 (((w20.setCell ⟨ap, 0, none⟩ (.slice a6 aQ.length a7)).setCell ⟨ap, 1, none⟩ (.slice aY aN.length aZ)).heap[az]? = some (.cells #[.slice none 0 0, .slice none 0 0] 25 (0, 0))) := ⟨by (with_reducible repeat (first | apply bn | apply bd | apply ba)); refine blk_far ?_ aV.out _; (with_reducible repeat (first | apply bn | apply bd | apply ba)); refine blk_far ?_ aV.out _; exact bT ay.out⟩
   have n7_ : Aside0 (((w20.setCell ⟨ap, 0, none⟩ (.slice a6 aQ.length a7)).setCell ⟨ap, 1, none⟩ (.slice aY aN.length aZ)).heap[ap]? = some (.cells #[.slice a6 aQ.length a7, .slice aY aN.length aZ] 25 (0, 0))) := ⟨by (with_reducible repeat (first | apply bn | apply bd | apply ba)); refine blk_put (cs := #[.slice a6 aQ.length a7, .slice none 0 0]) ?_ 1 _ rfl; (with_reducible repeat (first | apply bn | apply bd | apply ba)); refine blk_put (cs := #[.slice none 0 0, .slice none 0 0]) ?_ 0 _ rfl; exact bT aB.out⟩
   have n8_ : Aside0 (Below w.heap.size w ((w20.setCell ⟨ap, 0, none⟩ (.slice a6 aQ.length a7)).setCell ⟨ap, 1, none⟩ (.slice aY aN.length aZ))) := ⟨by repeat (first | (with_reducible first | exact HB.out | apply pA | apply pN | apply pD | refine eU ?_ (by assumption)) | exact HB.out)⟩
   (try clear aa)
   (try clear ab)
   (try clear aU)
   (try clear aR)
   (try clear ah)
   (try clear ao)
   (try clear ay)
   (try clear aB)
   (try clear HB)
   generalize ((w20.setCell ⟨ap, 0, none⟩ (.slice a6 aQ.length a7)).setCell ⟨ap, 1, none⟩ (.slice aY aN.length aZ)) = w27 at n0_ n1_ n2_ n3_ n4_ n5_ n6_ n7_ n8_ ⊢
   have aa := n0_
   have ab := n1_
   have aU := n2_
   have aR := n3_
   have ah := n4_
   have ao := n5_
   have ay := n6_
   have aB := n7_
   have HB := n8_
   clear n0_ n1_ n2_ n3_ n4_ n5_ n6_ n7_ n8_
   replace aa := am (Kd.V_drew aa.out)
   replace ab := am (Kd.V_drew ab.out)
   replace aU := am (Kd.R_drew aU.out)
   replace aR := am (Kd.R_drew aR.out)
   replace ah := am (blk_drew ah.out)
   replace ao := am (blk_drew ao.out)
   replace ay := am (blk_drew ay.out)
   replace aB := am (blk_drew aB.out)
   replace HB := am (below_drew1 HB.out)
   refine start_ (n := 16) (S := fun w' => w'.cell? ⟨ap, 0, none⟩ = some (.slice a6 aQ.length a7) ∧ w'.cell? ⟨ap, 1, none⟩ = some (.slice aY aN.length aZ)) (ds := [13, 15]) (bA 16 0) (by kernel_rfl) rfl (by kernel_rfl) ⟨cT aB 0, cT aB 1⟩ (fun hHeld => ?_); refine with_tabW store_Drop.tab7 store_Drop.bits7 (fun HT_ HW_ => ?_)
   generalize w27.drew = w28 at aa ab aU aR ah ao ay aB HB hHeld ⊢
   refine pT 0 28 (bA 16 1) HT_.out ?_
   refine pT 2 30 (bA 16 5) HT_.out ?_
   refine pT 3 31 (bA 16 13) HT_.out ?_
   refine pT 4 32 (bA 16 29) HT_.out ?_
   refine pT 6 34 (bA 16 93) HT_.out ?_
   refine pT 8 36 (bA 16 349) HT_.out ?_
   refine pT 9 37 (bA 16 861) HT_.out ?_
   refine pT 10 38 (bA 16 1885) HT_.out ?_
   refine tT 1 29 (bA 16 1887) HT_.out HW_.out hHeld ?_ (hy := by rintro w' ⟨s0, s1⟩; go_simp; with_reducible rfl)
   refine tT 7 35 (bA 16 2015) HT_.out HW_.out hHeld ?_ (hy := by rintro w' ⟨s0, s1⟩; go_simp; with_reducible rfl)
   refine oT 5 (bA 16 2047) HT_.out fun K hK => ?_
   refine gS Tryd.func22 #[.slice a6 aQ.length a7, .int .i64 a5, .int .i64 (wrap64 (a5 + 1))] ?_
   with_reducible refine (api_Node_22.calls (fun k_ => some k_ = (.slice a6 aQ.length a7 : Value).ownBlock) (.slice a6 aQ.length a7) aQ a5 (wrap64 (a5 + 1)) bE w _ ?side1 ?side2 A7.out).mono ?_
   (case side1 => repeat (first | (with_reducible first | exact HB.out | apply pA | apply pN | apply pD | refine eU ?_ (by assumption)) | exact HB.out))
   (case side2 => exact Kd.R_tight rfl aU.out)
   rintro e w29 ⟨c3, rfl, ho0, hb, hkp⟩
   refine ⟨_, rfl, ?_⟩
   replace aa := am (Kd.V_mono (ok' := fun k_ => ((P0_0_ k_ ∨ P0_1_ k_) ∨ w.heap.size ≤ k_) ∧ some k_ ≠ (.slice aY aN.length aZ : Value).ownBlock ∧ k_ ≠ aH ∧ k_ ≠ aI ∧ k_ ≠ az ∧ k_ ≠ ap ∧ some k_ ≠ (c3 : Value).ownBlock) (Kd.V_keptB (aa.out) hkp (fun k_ hk_ hs_ => (hk_.2.1) hs_)) (fun k_ hk_ => ⟨hk_.1.1, hk_.1.2.2.1, hk_.1.2.2.2.1, hk_.1.2.2.2.2.1, hk_.1.2.2.2.2.2.1, hk_.1.2.2.2.2.2.2, fun e_ => Or.elim (ho0.1 k_ e_.symm) (fun hs_ => hk_.2.1 hs_) (fun hn_ => Nat.not_le.2 hk_.2.2 hn_)⟩))
   replace ab := am (Kd.V_mono (ok' := fun k_ => ((P0_0_ k_ ∨ P0_1_ k_) ∨ w.heap.size ≤ k_) ∧ some k_ ≠ (.slice aY aN.length aZ : Value).ownBlock ∧ k_ ≠ aH ∧ k_ ≠ aI ∧ k_ ≠ az ∧ k_ ≠ ap ∧ some k_ ≠ (c3 : Value).ownBlock) (Kd.V_keptB (ab.out) hkp (fun k_ hk_ hs_ => (hk_.2.1) hs_)) (fun k_ hk_ => ⟨hk_.1.1, hk_.1.2.2.1, hk_.1.2.2.2.1, hk_.1.2.2.2.2.1, hk_.1.2.2.2.2.2.1, hk_.1.2.2.2.2.2.2, fun e_ => Or.elim (ho0.1 k_ e_.symm) (fun hs_ => hk_.2.1 hs_) (fun hn_ => Nat.not_le.2 hk_.2.2 hn_)⟩))
   replace ah := am (blk_kept (bT ah.out) hkp (fun hs_ => (fun e_ => (Kd.R_ne aU.out ah.out (by decide)) e_) hs_))
   replace ay := am (blk_kept (bT ay.out) hkp (fun hs_ => (fun e_ => (Kd.R_ne aU.out ay.out (by decide)) e_) hs_))
   replace aR := am (Kd.R_mono (ok' := fun k_ => (w.heap.size ≤ k_)) (Kd.R_keptB ((Kd.R_apart' aR.out (Kd.R_typed aU.out) (by decide))) hkp (fun k_ hk_ hs_ => (hk_.2) hs_)) (fun k_ hk_ => hk_.1.1))
   replace aB := am (blk_kept (bT aB.out) hkp (fun hs_ => (fun e_ => (Kd.R_ne aU.out aB.out (by decide)) e_) hs_))
   have ce := am (Kd.R_mono (ok' := fun k_ => (w.heap.size ≤ k_) ∧ k_ ≠ aI) ho0 (fun k_ hk_ => ⟨Or.elim hk_ (fun hs_ => (aU.out.1 k_ (hs_).symm).1) (fun hn_ => (Nat.le_trans (below_size (eT HB.out)) hn_)), Or.elim hk_ (fun hs_ => fun e_ => (Kd.R_away aU.out (fun _ hk => hk.2)) (by rw [← e_]; exact hs_)) (fun hn_ => (Kd.freshB (g := aI) (o := .cells #[.string a1_0, .string a1_1] 27 (0, 0)) (bT ao.out) k_ hn_))⟩))
   replace ao := am (blk_kept (bT ao.out) hkp (fun hs_ => (fun e_ => (Kd.R_away aU.out (fun _ hk => hk.2)) e_) hs_))
   replace HB := am (hb)
   clear aU
   (try clear hb)
   (try clear hkp)
   (try clear ho0)
   refine hK.out _ _ ⟨cT aB 0, cT aB 1⟩ (fun hHeld => ?_)
   clear hK K
   refine mN 33 ?_
   refine pT 12 40 (bA 16 6143) HT_.out ?_
   refine oT 11 (bA 16 8191) HT_.out fun K hK => ?_
   refine gS Tryd.func23 #[.slice aY aN.length aZ, .int .i64 a5, .int .i64 (wrap64 (a5 + 1))] ?_
   with_reducible refine (slices_Delete_string_string.calls (fun k_ => some k_ = (.slice aY aN.length aZ : Value).ownBlock) (.slice aY aN.length aZ) aN a5 (wrap64 (a5 + 1)) bF w _ ?side1 ?side2 A8.out).mono ?_
   (case side1 => repeat (first | (with_reducible first | exact HB.out | apply pA | apply pN | apply pD | refine eU ?_ (by assumption)) | exact HB.out))
   (case side2 => exact Kd.R_tight rfl aR.out)
   rintro e w30 ⟨d3, rfl, ho0, hb, hkp⟩
   refine ⟨_, rfl, ?_⟩
   replace aa := am (Kd.V_mono (ok' := fun k_ => ((P0_0_ k_ ∨ P0_1_ k_) ∨ w.heap.size ≤ k_) ∧ some k_ ≠ (c3 : Value).ownBlock ∧ k_ ≠ aH ∧ k_ ≠ aI ∧ k_ ≠ az ∧ k_ ≠ ap ∧ some k_ ≠ (d3 : Value).ownBlock) (Kd.V_keptB (aa.out) hkp (fun k_ hk_ hs_ => (hk_.2.1) hs_)) (fun k_ hk_ => ⟨hk_.1.1, hk_.1.2.2.2.2.2.2, hk_.1.2.2.1, hk_.1.2.2.2.1, hk_.1.2.2.2.2.1, hk_.1.2.2.2.2.2.1, fun e_ => Or.elim (ho0.1 k_ e_.symm) (fun hs_ => hk_.2.1 hs_) (fun hn_ => Nat.not_le.2 hk_.2.2 hn_)⟩))
   replace ab := am (Kd.V_mono (ok' := fun k_ => ((P0_0_ k_ ∨ P0_1_ k_) ∨ w.heap.size ≤ k_) ∧ some k_ ≠ (c3 : Value).ownBlock ∧ k_ ≠ aH ∧ k_ ≠ aI ∧ k_ ≠ az ∧ k_ ≠ ap ∧ some k_ ≠ (d3 : Value).ownBlock) (Kd.V_keptB (ab.out) hkp (fun k_ hk_ hs_ => (hk_.2.1) hs_)) (fun k_ hk_ => ⟨hk_.1.1, hk_.1.2.2.2.2.2.2, hk_.1.2.2.1, hk_.1.2.2.2.1, hk_.1.2.2.2.2.1, hk_.1.2.2.2.2.2.1, fun e_ => Or.elim (ho0.1 k_ e_.symm) (fun hs_ => hk_.2.1 hs_) (fun hn_ => Nat.not_le.2 hk_.2.2 hn_)⟩))
   replace ah := am (blk_kept (bT ah.out) hkp (fun hs_ => (fun e_ => (Kd.R_ne aR.out ah.out (by decide)) e_) hs_))
   replace ao := am (blk_kept (bT ao.out) hkp (fun hs_ => (fun e_ => (Kd.R_ne aR.out ao.out (by decide)) e_) hs_))
   replace ay := am (blk_kept (bT ay.out) hkp (fun hs_ => (fun e_ => (Kd.R_ne aR.out ay.out (by decide)) e_) hs_))
   replace aB := am (blk_kept (bT aB.out) hkp (fun hs_ => (fun e_ => (Kd.R_ne aR.out aB.out (by decide)) e_) hs_))
   replace ce := am (Kd.R_mono (ok' := fun k_ => (w.heap.size ≤ k_) ∧ k_ ≠ aI) (Kd.R_keptB ((Kd.R_apart' ce.out (Kd.R_typed aR.out) (by decide))) hkp (fun k_ hk_ hs_ => (hk_.2) hs_)) (fun k_ hk_ => ⟨hk_.1.1.1, hk_.1.1.2⟩))
   have du := am (Kd.R_mono (ok' := fun k_ => (w.heap.size ≤ k_)) ho0 (fun k_ hk_ => Or.elim hk_ (fun hs_ => (aR.out.1 k_ (hs_).symm)) (fun hn_ => (Nat.le_trans (below_size (eT HB.out)) hn_))))
   replace HB := am (hb)
   clear aR
   (try clear hb)
   (try clear hkp)
   (try clear ho0)
   obtain ⟨ch, ci, d4⟩ := Kd.R_slice ce.out
   (first | subst d4 | (injection d4 with f1_ f2_ f3_; have f4_ := f1_.symm; have f5_ := f3_.symm; clear f1_ f2_ f3_; subst f4_; subst f5_))
   obtain ⟨ct, cu, d5⟩ := Kd.R_slice du.out
   (first | subst d5 | (injection d5 with f1_ f2_ f3_; have f4_ := f1_.symm; have f5_ := f3_.symm; clear f1_ f2_ f3_; subst f4_; subst f5_))
   refine hK.out _ _ ⟨cT aB 0, cT aB 1⟩ (fun hHeld => ?_)
   clear hK K
   refine mN 39 ?_
   refine last_ (i := 13) (N := none) (bA 16 16383) rfl rfl (one_of HT_.out (by kernel_rfl)) (by decide) (fun K hK => ?_)
   have gX : w30.cell? ⟨ap, 0, none⟩ = some (.slice a6 aQ.length a7) := cT aB 0
   have gE := blk_frozen aB.out 0
   have fl := bx.out
   have fm := bz.out
   have fn := aV.out
   have fo := bL.out
   have fp := bM.out
   have fq := bN.out
   refine skip_ (w1 := ?_) (by rfl) rfl ?_ ?_
   rotate_left
   ·go_simp
    rfl
   refine hK.out _ _ ?_
   clear hK K
   refine pT 14 41 (bA 16 32767) HT_.out ?_
   refine last_ (i := 15) (N := none) (bA 16 65535) rfl rfl (one_of HT_.out (by kernel_rfl)) (by decide) (fun K hK => ?_)
   have gY : w30.cell? ⟨ap, 1, none⟩ = some (.slice aY aN.length aZ) := cT aB 1
   have gF := blk_frozen aB.out 1
   have fr := bx.out
   have fs := bz.out
   have ft := aV.out
   have fu := bL.out
   have fv := bM.out
   have fw := bN.out
   refine skip_ (w1 := ?_) (by rfl) rfl ?_ ?_
   rotate_left
   ·go_simp
    rfl
   refine hK.out _ _ ?_
   clear hK K
   refine done_ (done_of HT_.out (by kernel_rfl)) ?_
   have fx : w30.cell? ⟨ap, 0, none⟩ = some (.slice a6 aQ.length a7) := cT aB 0
   have fy : w30.cell? ⟨ap, 1, none⟩ = some (.slice aY aN.length aZ) := cT aB 1
   have fz := blk_frozen aB.out 0
   have fA := blk_frozen aB.out 1
   have fB : w30.cell? ⟨az, 0, none⟩ = some (.slice none 0 0) := cT ay 0
   have fC : w30.cell? ⟨az, 1, none⟩ = some (.slice none 0 0) := cT ay 1
   have fD := blk_frozen ay.out 0
   have fE := blk_frozen ay.out 1
   try go_wp2
   refine bodyPost_ret (results_ct rfl _ _ az 25 #[.slice ch bE.length ci, .slice ct bF.length cu] (0, 0) _ rfl (by (with_reducible repeat (first | apply bn | apply bd | apply ba)); refine blk_put (cs := #[.slice ch bE.length ci, .slice none 0 0]) ?_ 1 _ rfl; (with_reducible repeat (first | apply bn | apply bd | apply ba)); refine blk_put (cs := #[.slice none 0 0, .slice none 0 0]) ?_ 0 _ rfl; (with_reducible repeat (first | apply bn | apply bd | apply ba)); refine blk_far ?_ aV.out _; (with_reducible repeat (first | apply bn | apply bd | apply ba)); refine blk_far ?_ aV.out _; exact bT ay.out) Tryd.underlying25 rfl (by kernel_rfl)) rfl ?_
   exact ⟨_, _, by first | rfl | (simp [errW_none, errW_some] <;> rfl) | (simp [*, errW_none, errW_some] <;> rfl), Kd.V_mono (Kd.R_V (by (with_reducible repeat (first | apply Kd.R_alloc | apply Kd.R_drewN | apply Kd.R_drew)); exact Kd.R_mono (Kd.R_far (p := ⟨az, 1, none⟩) (Kd.R_far (p := ⟨az, 0, none⟩) (Kd.R_far (p := ⟨ap, 1, none⟩) (Kd.R_far (p := ⟨ap, 0, none⟩) (Kd.R_types (Kd.R_types ce.out aB.out (by decide)) ay.out (by decide)) (fun _ hk => hk.1.2) (.slice ch bE.length ci)) (fun _ hk => hk.1.2) (.slice ct bF.length cu)) (fun _ hk => hk.2) (.slice ch bE.length ci)) (fun _ hk => hk.2) (.slice ct bF.length cu)) (fun _ hk => hk.1.1.1))) (fun k_ hk => by first | exact ⟨(.inr (hk.1)), hk.2⟩ | exact (.inr (hk))), Kd.V_mono (Kd.R_V (by (with_reducible repeat (first | apply Kd.R_alloc | apply Kd.R_drewN | apply Kd.R_drew)); exact Kd.R_mono (Kd.R_far (p := ⟨az, 1, none⟩) (Kd.R_far (p := ⟨az, 0, none⟩) (Kd.R_far (p := ⟨ap, 1, none⟩) (Kd.R_far (p := ⟨ap, 0, none⟩) (Kd.R_types (Kd.R_types du.out aB.out (by decide)) ay.out (by decide)) (fun _ hk => hk.1.2) (.slice ch bE.length ci)) (fun _ hk => hk.1.2) (.slice ct bF.length cu)) (fun _ hk => hk.2) (.slice ch bE.length ci)) (fun _ hk => hk.2) (.slice ct bF.length cu)) (fun _ hk => hk.1.1))) (fun k_ hk => by first | exact ⟨(.inr (hk.1)), hk.2⟩ | exact (.inr (hk))), by repeat (first | (with_reducible first | exact HB.out | apply pA | apply pN | apply pD | refine eU ?_ (by assumption)) | exact HB.out)⟩
  ·replace c5 := Bool.eq_false_iff.mpr c5
   subst c5
   have H1 : (some (l0_0, l0_1, 2)) = some (r1, r2, r3) := by rw [if_neg (show ¬ (false = true) by decide)] at H; exact H
   clear H
   have H := H1
   clear H1
   simp only [Option.some.injEq, Prod.mk.injEq] at H
   obtain ⟨rfl, rfl, rfl⟩ := H
   go_enter Tryd.func12, Tryd.ntmps12
   go_wp2_with (first | ((with_reducible refine gate_dst (N := 2) rfl ?_); refine box_event ?hg (N := 2) ?hd (cs := #[.slice aq l0_0.length ar, .slice au l0_1.length av]) (t := 25) ?hr ?_; (case hd => rfl); (case hg => rfl); (case hr => first | (go_simp; done) | (go_simp; rfl)); intro aH hg w37 hbox hb; replace aa := am (Kd.V_below (Kd.V_elderB (vT aa.out) aH (Nat.le_of_eq hg.symm)) hb); replace ab := am (Kd.V_below (Kd.V_elderB (vT ab.out) aH (Nat.le_of_eq hg.symm)) hb); have ah := am (hbox); have dm := am ((gT hg HB.out)); have dn := am ((gT hg HB.out)); replace HB := am (sT HB.out hb); clear hb hbox hg) | ((with_reducible refine gate_dst (N := 3) rfl ?_); refine box_event ?hg (N := 3) ?hd (cs := #[.string a1_0, .string a1_1]) (t := 27) ?hr ?_; (case hd => rfl); (case hg => rfl); (case hr => first | (go_simp; done) | (go_simp; rfl)); intro aI hg w38 hbox hb; replace aa := am (Kd.V_below (Kd.V_elderB (vT aa.out) aI (Nat.le_of_eq hg.symm)) hb); replace ab := am (Kd.V_below (Kd.V_elderB (vT ab.out) aI (Nat.le_of_eq hg.symm)) hb); have ao := am (hbox); have dp := am ((gT hg HB.out)); have dq := am ((gT hg HB.out)); have br := am ((nT ah.out hg)); have bs := am ((mT ah.out hg)); replace ah := am (bB ah.out hb); replace HB := am (sT HB.out hb); clear hb hbox hg) | ((with_reducible refine gate_dst (N := 4) rfl ?_); refine box_event ?hg (N := 4) ?hd (cs := #[.slice none 0 0, .slice none 0 0]) (t := 25) ?hr ?_; (case hd => rfl); (case hg => rfl); (case hr => first | (go_simp; done) | (go_simp; rfl)); intro az hg w39 hbox hb; replace aa := am (Kd.V_below (Kd.V_elderB (vT aa.out) az (Nat.le_of_eq hg.symm)) hb); replace ab := am (Kd.V_below (Kd.V_elderB (vT ab.out) az (Nat.le_of_eq hg.symm)) hb); have ay := am (hbox); have dr := am ((gT hg HB.out)); have dt := am ((gT hg HB.out)); have bt := am ((nT ah.out hg)); have bu := am ((mT ah.out hg)); have bv := am ((nT ao.out hg)); have bw := am ((mT ao.out hg)); replace ah := am (bB ah.out hb); replace ao := am (bB ao.out hb); replace HB := am (sT HB.out hb); clear hb hbox hg; have dM := br.out; have dN := bs.out; have dP := bt.out; have dQ := bu.out; have cB : w39.cell? ⟨aH, 0, none⟩ = some (.slice aq l0_0.length ar) := cT ah 0; have cC : w39.cell? ⟨aH, 1, none⟩ = some (.slice au l0_1.length av) := cT ah 1; have cD := blk_frozen ah.out 0; have cE := blk_frozen ah.out 1; have dR := bv.out; have dS := bw.out; have cF : w39.cell? ⟨aI, 0, none⟩ = some (.string a1_0) := cT ao 0; have cG : w39.cell? ⟨aI, 1, none⟩ = some (.string a1_1) := cT ao 1; have cH := blk_frozen ao.out 0; have cI := blk_frozen ao.out 1) | ((with_reducible refine gate_callee (f := 18) rfl ?_); refine gL (some 13) Tryd.func18 #[.agg #[.slice aq l0_0.length ar, .slice au l0_1.length av], .agg #[.string a1_0, .string a1_1]] ?_; (with_reducible refine (store_find.calls k _ _ l0_0 _ _ l0_1 a1_0 a1_1 a5 false bX _ ?side1 ?side2 ?side3 ?side4 A3.out).mono ?_); (case side1 => repeat (first | exact (Kd.V_reads' aa.out).2.2 | (with_reducible refine Kd.C_alloc ?_ _) | (with_reducible refine Kd.C_drewN ?_ _) | (with_reducible refine Kd.C_drew ?_))); (case side2 => exact (Kd.V_reads' aa.out).2.1); (case side3 => repeat (first | exact (Kd.V_reads' ab.out).2.2 | (with_reducible refine Kd.C_alloc ?_ _) | (with_reducible refine Kd.C_drewN ?_ _) | (with_reducible refine Kd.C_drew ?_))); (case side4 => exact (Kd.V_reads' ab.out).2.1); rintro e w45 ⟨rfl, hb⟩; refine ⟨_, rfl, ?_⟩; replace aa := am (vB aa.out hb); replace ab := am (vB ab.out hb); replace ah := am (bB ah.out hb); replace ao := am (bB ao.out hb); replace ay := am (bB ay.out hb); replace HB := am (sT HB.out hb); (try clear hb); (try clear hb2); (try clear hk); (try clear hi); have cJ : w45.cell? ⟨aH, 0, none⟩ = some (.slice aq l0_0.length ar) := cT ah 0; have cK : w45.cell? ⟨aH, 1, none⟩ = some (.slice au l0_1.length av) := cT ah 1; have cL := blk_frozen ah.out 0; have cM := blk_frozen ah.out 1; have fF : w45.cell? ⟨az, 0, none⟩ = some (.slice none 0 0) := cT ay 0; have fG : w45.cell? ⟨az, 1, none⟩ = some (.slice none 0 0) := cT ay 1; have fH := blk_frozen ay.out 0; have fI := blk_frozen ay.out 1))
   refine bodyPost_ret (results_ct rfl _ _ az 25 #[.slice aq l0_0.length ar, .slice au l0_1.length av] (0, 0) _ rfl (by (with_reducible repeat (first | apply bn | apply bd | apply ba)); refine blk_put (cs := #[.slice aq l0_0.length ar, .slice none 0 0]) ?_ 1 _ rfl; (with_reducible repeat (first | apply bn | apply bd | apply ba)); refine blk_put (cs := #[.slice none 0 0, .slice none 0 0]) ?_ 0 _ rfl; exact bT ay.out) Tryd.underlying25 rfl (by kernel_rfl)) rfl ?_
   exact ⟨_, _, by first | rfl | (simp [errW_none, errW_some] <;> rfl) | (simp [*, errW_none, errW_some] <;> rfl), by (with_reducible repeat (first | apply Kd.V_alloc | apply Kd.V_drewN | apply Kd.V_drew)); exact Kd.V_mono (Kd.V_far (p := ⟨az, 1, none⟩) (Kd.V_far (p := ⟨az, 0, none⟩) (Kd.V_mono aa.out (fun k_ hk => (⟨hk, hk.2⟩ : _ ∧ k_ ≠ az))) (fun _ hk => hk.2) (.slice aq l0_0.length ar)) (fun _ hk => hk.2) (.slice au l0_1.length av)) (fun _ hk => hk.1.1.1.1), by (with_reducible repeat (first | apply Kd.V_alloc | apply Kd.V_drewN | apply Kd.V_drew)); exact Kd.V_mono (Kd.V_far (p := ⟨az, 1, none⟩) (Kd.V_far (p := ⟨az, 0, none⟩) (Kd.V_mono ab.out (fun k_ hk => (⟨hk, hk.2⟩ : _ ∧ k_ ≠ az))) (fun _ hk => hk.2) (.slice aq l0_0.length ar)) (fun _ hk => hk.2) (.slice au l0_1.length av)) (fun _ hk => hk.1.1.1.1), by repeat (first | (with_reducible first | exact HB.out | apply pA | apply pN | apply pD | refine eU ?_ (by assumption)) | exact HB.out)⟩
 ·rw [if_neg c4] at H
  have dx : (bX == 0) = false := beq_eq_false_iff_ne.mpr c4
  have dy : (bX != 0) = true := bne_iff_ne.mpr c4
  simp only [Option.some.injEq, Prod.mk.injEq] at H
  obtain ⟨rfl, rfl, rfl⟩ := H
  go_enter Tryd.func12, Tryd.ntmps12
  go_wp2_with (first | ((with_reducible refine gate_dst (N := 2) rfl ?_); refine box_event ?hg (N := 2) ?hd (cs := #[.slice aq l0_0.length ar, .slice au l0_1.length av]) (t := 25) ?hr ?_; (case hd => rfl); (case hg => rfl); (case hr => first | (go_simp; done) | (go_simp; rfl)); intro aH hg w48 hbox hb; replace aa := am (Kd.V_below (Kd.V_elderB (vT aa.out) aH (Nat.le_of_eq hg.symm)) hb); replace ab := am (Kd.V_below (Kd.V_elderB (vT ab.out) aH (Nat.le_of_eq hg.symm)) hb); have ah := am (hbox); have dm := am ((gT hg HB.out)); have dn := am ((gT hg HB.out)); replace HB := am (sT HB.out hb); clear hb hbox hg) | ((with_reducible refine gate_dst (N := 3) rfl ?_); refine box_event ?hg (N := 3) ?hd (cs := #[.string a1_0, .string a1_1]) (t := 27) ?hr ?_; (case hd => rfl); (case hg => rfl); (case hr => first | (go_simp; done) | (go_simp; rfl)); intro aI hg w49 hbox hb; replace aa := am (Kd.V_below (Kd.V_elderB (vT aa.out) aI (Nat.le_of_eq hg.symm)) hb); replace ab := am (Kd.V_below (Kd.V_elderB (vT ab.out) aI (Nat.le_of_eq hg.symm)) hb); have ao := am (hbox); have dp := am ((gT hg HB.out)); have dq := am ((gT hg HB.out)); have br := am ((nT ah.out hg)); have bs := am ((mT ah.out hg)); replace ah := am (bB ah.out hb); replace HB := am (sT HB.out hb); clear hb hbox hg) | ((with_reducible refine gate_dst (N := 4) rfl ?_); refine box_event ?hg (N := 4) ?hd (cs := #[.slice none 0 0, .slice none 0 0]) (t := 25) ?hr ?_; (case hd => rfl); (case hg => rfl); (case hr => first | (go_simp; done) | (go_simp; rfl)); intro az hg w50 hbox hb; replace aa := am (Kd.V_below (Kd.V_elderB (vT aa.out) az (Nat.le_of_eq hg.symm)) hb); replace ab := am (Kd.V_below (Kd.V_elderB (vT ab.out) az (Nat.le_of_eq hg.symm)) hb); have ay := am (hbox); have dr := am ((gT hg HB.out)); have dt := am ((gT hg HB.out)); have bt := am ((nT ah.out hg)); have bu := am ((mT ah.out hg)); have bv := am ((nT ao.out hg)); have bw := am ((mT ao.out hg)); replace ah := am (bB ah.out hb); replace ao := am (bB ao.out hb); replace HB := am (sT HB.out hb); clear hb hbox hg; have dT := br.out; have dU := bs.out; have dV := bt.out; have dW := bu.out; have cN : w50.cell? ⟨aH, 0, none⟩ = some (.slice aq l0_0.length ar) := cT ah 0; have cO : w50.cell? ⟨aH, 1, none⟩ = some (.slice au l0_1.length av) := cT ah 1; have cP := blk_frozen ah.out 0; have cQ := blk_frozen ah.out 1; have gG := bv.out; have gH := bw.out; have fJ : w50.cell? ⟨aI, 0, none⟩ = some (.string a1_0) := cT ao 0; have fK : w50.cell? ⟨aI, 1, none⟩ = some (.string a1_1) := cT ao 1; have fL := blk_frozen ao.out 0; have fM := blk_frozen ao.out 1) | ((with_reducible refine gate_callee (f := 18) rfl ?_); refine gL (some 13) Tryd.func18 #[.agg #[.slice aq l0_0.length ar, .slice au l0_1.length av], .agg #[.string a1_0, .string a1_1]] ?_; (with_reducible refine (store_find.calls k _ _ l0_0 _ _ l0_1 a1_0 a1_1 a5 dz bX _ ?side1 ?side2 ?side3 ?side4 A3.out).mono ?_); (case side1 => repeat (first | exact (Kd.V_reads' aa.out).2.2 | (with_reducible refine Kd.C_alloc ?_ _) | (with_reducible refine Kd.C_drewN ?_ _) | (with_reducible refine Kd.C_drew ?_))); (case side2 => exact (Kd.V_reads' aa.out).2.1); (case side3 => repeat (first | exact (Kd.V_reads' ab.out).2.2 | (with_reducible refine Kd.C_alloc ?_ _) | (with_reducible refine Kd.C_drewN ?_ _) | (with_reducible refine Kd.C_drew ?_))); (case side4 => exact (Kd.V_reads' ab.out).2.1); rintro e w56 ⟨rfl, hb⟩; refine ⟨_, rfl, ?_⟩; replace aa := am (vB aa.out hb); replace ab := am (vB ab.out hb); replace ah := am (bB ah.out hb); replace ao := am (bB ao.out hb); replace ay := am (bB ay.out hb); replace HB := am (sT HB.out hb); (try clear hb); (try clear hb2); (try clear hk); (try clear hi); have fN : w56.cell? ⟨aH, 0, none⟩ = some (.slice aq l0_0.length ar) := cT ah 0; have fO : w56.cell? ⟨aH, 1, none⟩ = some (.slice au l0_1.length av) := cT ah 1; have fP := blk_frozen ah.out 0; have fQ := blk_frozen ah.out 1; have fR : w56.cell? ⟨az, 0, none⟩ = some (.slice none 0 0) := cT ay 0; have fS : w56.cell? ⟨az, 1, none⟩ = some (.slice none 0 0) := cT ay 1; have fT := blk_frozen ay.out 0; have fU := blk_frozen ay.out 1))
  refine bodyPost_ret (results_ct rfl _ _ az 25 #[.slice aq l0_0.length ar, .slice au l0_1.length av] (0, 0) _ rfl (by (with_reducible repeat (first | apply bn | apply bd | apply ba)); refine blk_put (cs := #[.slice aq l0_0.length ar, .slice none 0 0]) ?_ 1 _ rfl; (with_reducible repeat (first | apply bn | apply bd | apply ba)); refine blk_put (cs := #[.slice none 0 0, .slice none 0 0]) ?_ 0 _ rfl; exact bT ay.out) Tryd.underlying25 rfl (by kernel_rfl)) rfl ?_
  exact ⟨_, _, by first | rfl | (simp [errW_none, errW_some] <;> rfl) | (simp [*, errW_none, errW_some] <;> rfl), by (with_reducible repeat (first | apply Kd.V_alloc | apply Kd.V_drewN | apply Kd.V_drew)); exact Kd.V_mono (Kd.V_far (p := ⟨az, 1, none⟩) (Kd.V_far (p := ⟨az, 0, none⟩) (Kd.V_mono aa.out (fun k_ hk => (⟨hk, hk.2⟩ : _ ∧ k_ ≠ az))) (fun _ hk => hk.2) (.slice aq l0_0.length ar)) (fun _ hk => hk.2) (.slice au l0_1.length av)) (fun _ hk => hk.1.1.1.1), by (with_reducible repeat (first | apply Kd.V_alloc | apply Kd.V_drewN | apply Kd.V_drew)); exact Kd.V_mono (Kd.V_far (p := ⟨az, 1, none⟩) (Kd.V_far (p := ⟨az, 0, none⟩) (Kd.V_mono ab.out (fun k_ hk => (⟨hk, hk.2⟩ : _ ∧ k_ ≠ az))) (fun _ hk => hk.2) (.slice aq l0_0.length ar)) (fun _ hk => hk.2) (.slice au l0_1.length av)) (fun _ hk => hk.1.1.1.1), by repeat (first | (with_reducible first | exact HB.out | apply pA | apply pN | apply pD | refine eU ?_ (by assumption)) | exact HB.out)⟩

end Go.Proofs.YtomjppafgalaoaaDoor.P
