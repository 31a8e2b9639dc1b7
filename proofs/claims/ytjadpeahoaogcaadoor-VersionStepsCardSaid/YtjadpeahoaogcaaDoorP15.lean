-- Written by this project's own program (wip/tools/hp.py), driving the kit's print; hand texts among it. Not trusted: Lean checks it.
import Derived.Test.YtjadpeahoaogcaaDoorP0
import Derived.Test.YtjadpeahoaogcaaDoorP2
import Derived.Test.YtjadpeahoaogcaaDoorP12
import Derived.Test.YtjadpeahoaogcaaDoorP14
namespace Go.Proofs.YtjadpeahoaogcaaDoor.P
open Go.RowKit Go.Proofs.YtjadpeahoaogcaaDoorW.PrintWords Go.Proofs.YtjadpeahoaogcaaDoorW.PrintLast Go.Proofs.YtjadpeahoaogcaaDoorW.PrintMore
attribute [local go_sem] max2_int min2_int max_two min_two max_three min_three max_four min_four   -- for this text's walks alone
set_option linter.unusedVariables false
set_option linter.unusedSimpArgs false

/-! ### version_May: function 12 -/
def version_May.f (k : Nat) (a0 : ByteArray) : Option (Bool) := (version_Split.f k a0).bind fun bt194 => (some (bt194.2.2.2.2 == 0))
theorem version_May.mono : ∀ a0 k, LeO (version_May.f k a0) (version_May.f (k + 1) a0) := by
 intro a0 k
 unfold version_May.f
 repeat' first
   | (with_reducible exact version_Split.mono _ _)
   | (with_reducible exact LeO.refl _)
   | (with_reducible exact LeO.none _)
   | (with_reducible refine LeO.ite ?_ ?_)
   | (with_reducible refine LeO.bind ?_ (fun _ => ?_))
   | exact version_Split.mono _ _
   | exact LeO.none _
   | refine LeO.ite ?_ ?_
   | refine LeO.bind ?_ (fun _ => ?_)
set_option maxHeartbeats 8000000 in
set_option maxRecDepth 100000 in
theorem version_May.calls (k : Nat) (a0 : ByteArray) (r : Bool) (w : World) (h : version_May.f k a0 = some r) :
  Calls Tryd.prog 12 #[.string a0] w fun e w' => e = .returned (.bool r) ∧ Below w.heap.size w w' := by
 have hu36 := Tryd.underlying36
 have HB := Aside0.mk (Below.refl w.heap.size w)
 have H : ((version_Split.f k a0).bind fun bt194 => (some (bt194.2.2.2.2 == 0))) = some r := h
 clear h
 replace H := Option.bind_eq_some_iff.mp H
 obtain ⟨⟨t194, t195, t196, t197, t200⟩, A20, H⟩ := H
 replace H : (some (t200 == 0)) = some r := H
 have A2 := Aside0.mk A20
 clear A20
 obtain rfl := Option.some.inj H
 go_enter Tryd.func12, Tryd.ntmps12
 go_wp2_with (first | ((with_reducible refine gate_callee (f := 18) rfl ?_); refine goesL_ (some 7) rfl rfl Tryd.func18 (by kernel_rfl) rfl #[.string a0] rfl (by (try simp only [List.map_toArray, List.map_cons, List.map_nil]); first | done | rfl | (simp only [List.length_drop, List.length_take]; rfl)) ?_; (with_reducible refine (version_Split.calls k a0 t194 t195 t196 t197 t200 _ A2.out).mono ?_); rintro e w3 ⟨v198, rfl, ho0, hb⟩; refine ⟨_, rfl, ?_⟩; have n0_ := Aside0.mk (Kd.R_lower ho0 (below_size (by repeat (first | (with_reducible first | exact HB.out | apply below_alloc | apply pw_below_drewN | apply below_drew1) | exact HB.out)))); have n1_ := Aside0.mk (below_step (by repeat (first | (with_reducible first | exact HB.out | apply below_alloc | apply pw_below_drewN | apply below_drew1) | exact HB.out)) hb); clear HB; have HO199 := n0_; have HB := n1_; clear n0_ n1_; (try clear hb); (try clear hb2); (try clear hk); (try clear hi); (try clear ho0)) | ((with_reducible refine gate_dst (N := 3) rfl ?_); refine box_event ?hg (N := 3) ?hd (cs := #[.string (⟨#[]⟩ : ByteArray), .string (⟨#[]⟩ : ByteArray), .string (⟨#[]⟩ : ByteArray), .slice none 0 0]) (t := 36) ?hr ?_; (case hd => rfl); (case hg => rfl); (case hr => first | (go_simp; done) | (go_simp; rfl)); intro gb201 hg w4 hbox hb; have n0_ := Aside0.mk (Kd.R_below (by (with_reducible repeat (first | apply Kd.R_alloc | apply Kd.R_drewN | apply Kd.R_drew)); exact HO199.out) hb); have n1_ := Aside0.mk (below_step (by repeat (first | (with_reducible first | exact HB.out | apply below_alloc | apply pw_below_drewN | apply below_drew1) | exact HB.out)) hb); have n2_ := Aside0.mk (hbox); have n3_ := Aside0.mk ((by rw [hg]; exact (below_size (by repeat (first | (with_reducible first | exact HB.out | apply below_alloc | apply pw_below_drewN | apply below_drew1) | exact HB.out))) : w.heap.size ≤ gb201)); have n4_ := Aside0.mk ((by rw [hg]; exact (below_size (by repeat (first | (with_reducible first | exact HB.out | apply below_alloc | apply pw_below_drewN | apply below_drew1) | exact HB.out))) : w.heap.size ≤ gb201)); clear HO199; clear HB; have HO199 := n0_; have HB := n1_; have BK201 := n2_; have GW201 := n3_; have GE201 := n4_; clear n0_ n1_ n2_ n3_ n4_; clear hb hbox hg; have hcz5_0 : w4.cell? ⟨gb201, 0, none⟩ = some (.string (⟨#[]⟩ : ByteArray)) := (blk_cell BK201.out 0).trans rfl; have hcz5_1 : w4.cell? ⟨gb201, 1, none⟩ = some (.string (⟨#[]⟩ : ByteArray)) := (blk_cell BK201.out 1).trans rfl; have hcz5_2 : w4.cell? ⟨gb201, 2, none⟩ = some (.string (⟨#[]⟩ : ByteArray)) := (blk_cell BK201.out 2).trans rfl; have hcz5_3 : w4.cell? ⟨gb201, 3, none⟩ = some (.slice none 0 0) := (blk_cell BK201.out 3).trans rfl; have hfz5_0 := blk_frozen BK201.out 0; have hfz5_1 := blk_frozen BK201.out 1; have hfz5_2 := blk_frozen BK201.out 2; have hfz5_3 := blk_frozen BK201.out 3; obtain ⟨Ao6, co6, eo6⟩ := Kd.R_slice HO199.out; subst eo6))
 go_ret
 exact ⟨by first | rfl | (simp [errW_none, errW_some] <;> rfl) | (simp [*, errW_none, errW_some] <;> rfl), by repeat (first | (with_reducible first | exact HB.out | apply below_alloc | apply pw_below_drewN | apply below_drew1 | refine below_set ?_ GE201.out) | exact HB.out)⟩

/-! ### graftwoodlaw03_awake: function 13 -/
def graftwoodlaw03_awake.f (k : Nat)  : Option (Bool) := (version_Cmp.f k (⟨#[118, 49, 46, 48, 46, 48, 45, 50]⟩ : ByteArray) (⟨#[118, 49, 46, 48, 46, 48, 45, 49, 48]⟩ : ByteArray)).bind fun bt202 => ((version_Cmp.f k (⟨#[118, 49, 46, 48, 46, 48, 45, 49, 48]⟩ : ByteArray) (⟨#[118, 49, 46, 48, 46, 48, 45, 97]⟩ : ByteArray)).bind fun bt204 => ((version_Cmp.f k (⟨#[118, 49, 46, 48, 46, 48, 45, 97]⟩ : ByteArray) (⟨#[118, 49, 46, 48, 46, 48]⟩ : ByteArray)).bind fun bt206 => ((version_May.f k (⟨#[118, 49, 46, 48, 46, 48, 45, 48, 49]⟩ : ByteArray)).bind fun t208 => (if t208 = true then (some false) else ((version_May.f k (⟨#[118, 49, 46, 48, 46, 48, 45, 48, 49, 97]⟩ : ByteArray)).bind fun t209 => (if t209 = true then (if bt202.1 = (-1) then (if bt202.2 = 0 then (if bt204.1 = (-1) then (if bt204.2 = 0 then (if bt206.1 = (-1) then (some (bt206.2 == 0)) else (some false)) else (some false)) else (some false)) else (some false)) else (some false)) else (some false)))))))
theorem graftwoodlaw03_awake.mono : ∀ k, LeO (graftwoodlaw03_awake.f k ) (graftwoodlaw03_awake.f (k + 1) ) := by
 intro  k
 unfold graftwoodlaw03_awake.f
 repeat' first
   | (with_reducible exact version_Cmp.mono _ _ _)
   | (with_reducible exact version_May.mono _ _)
   | (with_reducible exact LeO.refl _)
   | (with_reducible exact LeO.none _)
   | (with_reducible refine LeO.ite ?_ ?_)
   | (with_reducible refine LeO.bind ?_ (fun _ => ?_))
   | exact version_Cmp.mono _ _ _
   | exact version_May.mono _ _
   | exact LeO.none _
   | refine LeO.ite ?_ ?_
   | refine LeO.bind ?_ (fun _ => ?_)
set_option maxHeartbeats 8000000 in
set_option maxRecDepth 100000 in
theorem graftwoodlaw03_awake.calls (k : Nat)  (r : Bool) (w : World) (h : graftwoodlaw03_awake.f k  = some r) :
  Calls Tryd.prog 13 #[] w fun e w' => e = .returned (.bool r) ∧ Below w.heap.size w w' := by
 have HB := Aside0.mk (Below.refl w.heap.size w)
 have H : ((version_Cmp.f k (⟨#[118, 49, 46, 48, 46, 48, 45, 50]⟩ : ByteArray) (⟨#[118, 49, 46, 48, 46, 48, 45, 49, 48]⟩ : ByteArray)).bind fun bt202 => ((version_Cmp.f k (⟨#[118, 49, 46, 48, 46, 48, 45, 49, 48]⟩ : ByteArray) (⟨#[118, 49, 46, 48, 46, 48, 45, 97]⟩ : ByteArray)).bind fun bt204 => ((version_Cmp.f k (⟨#[118, 49, 46, 48, 46, 48, 45, 97]⟩ : ByteArray) (⟨#[118, 49, 46, 48, 46, 48]⟩ : ByteArray)).bind fun bt206 => ((version_May.f k (⟨#[118, 49, 46, 48, 46, 48, 45, 48, 49]⟩ : ByteArray)).bind fun t208 => (if t208 = true then (some false) else ((version_May.f k (⟨#[118, 49, 46, 48, 46, 48, 45, 48, 49, 97]⟩ : ByteArray)).bind fun t209 => (if t209 = true then (if bt202.1 = (-1) then (if bt202.2 = 0 then (if bt204.1 = (-1) then (if bt204.2 = 0 then (if bt206.1 = (-1) then (some (bt206.2 == 0)) else (some false)) else (some false)) else (some false)) else (some false)) else (some false)) else (some false)))))))) = some r := h
 clear h
 replace H := Option.bind_eq_some_iff.mp H
 obtain ⟨⟨t202, t203⟩, A10, H⟩ := H
 replace H : ((version_Cmp.f k (⟨#[118, 49, 46, 48, 46, 48, 45, 49, 48]⟩ : ByteArray) (⟨#[118, 49, 46, 48, 46, 48, 45, 97]⟩ : ByteArray)).bind fun bt204 => ((version_Cmp.f k (⟨#[118, 49, 46, 48, 46, 48, 45, 97]⟩ : ByteArray) (⟨#[118, 49, 46, 48, 46, 48]⟩ : ByteArray)).bind fun bt206 => ((version_May.f k (⟨#[118, 49, 46, 48, 46, 48, 45, 48, 49]⟩ : ByteArray)).bind fun t208 => (if t208 = true then (some false) else ((version_May.f k (⟨#[118, 49, 46, 48, 46, 48, 45, 48, 49, 97]⟩ : ByteArray)).bind fun t209 => (if t209 = true then (if t202 = (-1) then (if t203 = 0 then (if bt204.1 = (-1) then (if bt204.2 = 0 then (if bt206.1 = (-1) then (some (bt206.2 == 0)) else (some false)) else (some false)) else (some false)) else (some false)) else (some false)) else (some false))))))) = some r := H
 have A1 := Aside0.mk A10
 clear A10
 replace H := Option.bind_eq_some_iff.mp H
 obtain ⟨⟨t204, t205⟩, A20, H⟩ := H
 replace H : ((version_Cmp.f k (⟨#[118, 49, 46, 48, 46, 48, 45, 97]⟩ : ByteArray) (⟨#[118, 49, 46, 48, 46, 48]⟩ : ByteArray)).bind fun bt206 => ((version_May.f k (⟨#[118, 49, 46, 48, 46, 48, 45, 48, 49]⟩ : ByteArray)).bind fun t208 => (if t208 = true then (some false) else ((version_May.f k (⟨#[118, 49, 46, 48, 46, 48, 45, 48, 49, 97]⟩ : ByteArray)).bind fun t209 => (if t209 = true then (if t202 = (-1) then (if t203 = 0 then (if t204 = (-1) then (if t205 = 0 then (if bt206.1 = (-1) then (some (bt206.2 == 0)) else (some false)) else (some false)) else (some false)) else (some false)) else (some false)) else (some false)))))) = some r := H
 have A2 := Aside0.mk A20
 clear A20
 replace H := Option.bind_eq_some_iff.mp H
 obtain ⟨⟨t206, t207⟩, A30, H⟩ := H
 replace H : ((version_May.f k (⟨#[118, 49, 46, 48, 46, 48, 45, 48, 49]⟩ : ByteArray)).bind fun t208 => (if t208 = true then (some false) else ((version_May.f k (⟨#[118, 49, 46, 48, 46, 48, 45, 48, 49, 97]⟩ : ByteArray)).bind fun t209 => (if t209 = true then (if t202 = (-1) then (if t203 = 0 then (if t204 = (-1) then (if t205 = 0 then (if t206 = (-1) then (some (t207 == 0)) else (some false)) else (some false)) else (some false)) else (some false)) else (some false)) else (some false))))) = some r := H
 have A3 := Aside0.mk A30
 clear A30
 replace H := Option.bind_eq_some_iff.mp H
 obtain ⟨t208, A40, H⟩ := H
 replace H : (if t208 = true then (some false) else ((version_May.f k (⟨#[118, 49, 46, 48, 46, 48, 45, 48, 49, 97]⟩ : ByteArray)).bind fun t209 => (if t209 = true then (if t202 = (-1) then (if t203 = 0 then (if t204 = (-1) then (if t205 = 0 then (if t206 = (-1) then (some (t207 == 0)) else (some false)) else (some false)) else (some false)) else (some false)) else (some false)) else (some false)))) = some r := H
 have A4 := Aside0.mk A40
 clear A40
 by_cases c5 : t208 = true
 ·subst c5
  have H1 : (some false) = some r := by rw [if_pos rfl] at H; exact H
  clear H
  have H := H1
  clear H1
  obtain rfl := Option.some.inj H
  go_enter Tryd.func13, Tryd.ntmps13
  go_wp2_with (first | ((with_reducible refine gate_callee (f := 11) rfl ?_); refine goesL_ (some 8) rfl rfl Tryd.func11 (by kernel_rfl) rfl #[.string (⟨#[118, 49, 46, 48, 46, 48, 45, 50]⟩ : ByteArray), .string (⟨#[118, 49, 46, 48, 46, 48, 45, 49, 48]⟩ : ByteArray)] rfl (by (try simp only [List.map_toArray, List.map_cons, List.map_nil]); first | done | rfl | (simp only [List.length_drop, List.length_take]; rfl)) ?_; (with_reducible refine (version_Cmp.calls k (⟨#[118, 49, 46, 48, 46, 48, 45, 50]⟩ : ByteArray) (⟨#[118, 49, 46, 48, 46, 48, 45, 49, 48]⟩ : ByteArray) t202 t203 _ A1.out).mono ?_); rintro e w6 ⟨rfl, hb⟩; refine ⟨_, rfl, ?_⟩; have n0_ := Aside0.mk (below_step (by repeat (first | (with_reducible first | exact HB.out | apply below_alloc | apply pw_below_drewN | apply below_drew1) | exact HB.out)) hb); clear HB; have HB := n0_; clear n0_; (try clear hb); (try clear hb2); (try clear hk); (try clear hi)) | ((with_reducible refine gate_callee (f := 11) rfl ?_); refine goesL_ (some 12) rfl rfl Tryd.func11 (by kernel_rfl) rfl #[.string (⟨#[118, 49, 46, 48, 46, 48, 45, 49, 48]⟩ : ByteArray), .string (⟨#[118, 49, 46, 48, 46, 48, 45, 97]⟩ : ByteArray)] rfl (by (try simp only [List.map_toArray, List.map_cons, List.map_nil]); first | done | rfl | (simp only [List.length_drop, List.length_take]; rfl)) ?_; (with_reducible refine (version_Cmp.calls k (⟨#[118, 49, 46, 48, 46, 48, 45, 49, 48]⟩ : ByteArray) (⟨#[118, 49, 46, 48, 46, 48, 45, 97]⟩ : ByteArray) t204 t205 _ A2.out).mono ?_); rintro e w7 ⟨rfl, hb⟩; refine ⟨_, rfl, ?_⟩; have n0_ := Aside0.mk (below_step (by repeat (first | (with_reducible first | exact HB.out | apply below_alloc | apply pw_below_drewN | apply below_drew1) | exact HB.out)) hb); clear HB; have HB := n0_; clear n0_; (try clear hb); (try clear hb2); (try clear hk); (try clear hi)) | ((with_reducible refine gate_callee (f := 11) rfl ?_); refine goesL_ (some 16) rfl rfl Tryd.func11 (by kernel_rfl) rfl #[.string (⟨#[118, 49, 46, 48, 46, 48, 45, 97]⟩ : ByteArray), .string (⟨#[118, 49, 46, 48, 46, 48]⟩ : ByteArray)] rfl (by (try simp only [List.map_toArray, List.map_cons, List.map_nil]); first | done | rfl | (simp only [List.length_drop, List.length_take]; rfl)) ?_; (with_reducible refine (version_Cmp.calls k (⟨#[118, 49, 46, 48, 46, 48, 45, 97]⟩ : ByteArray) (⟨#[118, 49, 46, 48, 46, 48]⟩ : ByteArray) t206 t207 _ A3.out).mono ?_); rintro e w8 ⟨rfl, hb⟩; refine ⟨_, rfl, ?_⟩; have n0_ := Aside0.mk (below_step (by repeat (first | (with_reducible first | exact HB.out | apply below_alloc | apply pw_below_drewN | apply below_drew1) | exact HB.out)) hb); clear HB; have HB := n0_; clear n0_; (try clear hb); (try clear hb2); (try clear hk); (try clear hi)) | ((with_reducible refine gate_callee (f := 12) rfl ?_); refine goesL_ (some 19) rfl rfl Tryd.func12 (by kernel_rfl) rfl #[.string (⟨#[118, 49, 46, 48, 46, 48, 45, 48, 49]⟩ : ByteArray)] rfl (by (try simp only [List.map_toArray, List.map_cons, List.map_nil]); first | done | rfl | (simp only [List.length_drop, List.length_take]; rfl)) ?_; (with_reducible refine (version_May.calls k (⟨#[118, 49, 46, 48, 46, 48, 45, 48, 49]⟩ : ByteArray) true _ A4.out).mono ?_); rintro e w9 ⟨rfl, hb⟩; refine ⟨_, rfl, ?_⟩; have n0_ := Aside0.mk (below_step (by repeat (first | (with_reducible first | exact HB.out | apply below_alloc | apply pw_below_drewN | apply below_drew1) | exact HB.out)) hb); clear HB; have HB := n0_; clear n0_; (try clear hb); (try clear hb2); (try clear hk); (try clear hi)))
  go_ret
  exact ⟨by first | rfl | (simp [errW_none, errW_some] <;> rfl) | (simp [*, errW_none, errW_some] <;> rfl), by repeat (first | (with_reducible first | exact HB.out | apply below_alloc | apply pw_below_drewN | apply below_drew1) | exact HB.out)⟩
 ·replace c5 := Bool.eq_false_iff.mpr c5
  subst c5
  have H1 : ((version_May.f k (⟨#[118, 49, 46, 48, 46, 48, 45, 48, 49, 97]⟩ : ByteArray)).bind fun t209 => (if t209 = true then (if t202 = (-1) then (if t203 = 0 then (if t204 = (-1) then (if t205 = 0 then (if t206 = (-1) then (some (t207 == 0)) else (some false)) else (some false)) else (some false)) else (some false)) else (some false)) else (some false))) = some r := by rw [if_neg (show ¬ (false = true) by decide)] at H; exact H
  clear H
  have H := H1
  clear H1
  replace H := Option.bind_eq_some_iff.mp H
  obtain ⟨t209, A100, H⟩ := H
  replace H : (if t209 = true then (if t202 = (-1) then (if t203 = 0 then (if t204 = (-1) then (if t205 = 0 then (if t206 = (-1) then (some (t207 == 0)) else (some false)) else (some false)) else (some false)) else (some false)) else (some false)) else (some false)) = some r := H
  have A10 := Aside0.mk A100
  clear A100
  by_cases c11 : t209 = true
  ·subst c11
   have H1 : (if t202 = (-1) then (if t203 = 0 then (if t204 = (-1) then (if t205 = 0 then (if t206 = (-1) then (some (t207 == 0)) else (some false)) else (some false)) else (some false)) else (some false)) else (some false)) = some r := by rw [if_pos rfl] at H; exact H
   clear H
   have H := H1
   clear H1
   by_cases c12 : t202 = (-1)
   ·rw [if_pos c12] at H
    have c12b0 : (t202 == (-1)) = true := beq_iff_eq.mpr c12
    have c12b1 : (t202 != (-1)) = false := bne_eq_false_iff_eq.mpr c12
    clear c12
    by_cases c13 : t203 = 0
    ·rw [if_pos c13] at H
     have c13b0 : (t203 == 0) = true := beq_iff_eq.mpr c13
     have c13b1 : (t203 != 0) = false := bne_eq_false_iff_eq.mpr c13
     clear c13
     by_cases c14 : t204 = (-1)
     ·rw [if_pos c14] at H
      have c14b0 : (t204 == (-1)) = true := beq_iff_eq.mpr c14
      have c14b1 : (t204 != (-1)) = false := bne_eq_false_iff_eq.mpr c14
      clear c14
      by_cases c15 : t205 = 0
      ·rw [if_pos c15] at H
       have c15b0 : (t205 == 0) = true := beq_iff_eq.mpr c15
       have c15b1 : (t205 != 0) = false := bne_eq_false_iff_eq.mpr c15
       clear c15
       by_cases c16 : t206 = (-1)
       ·rw [if_pos c16] at H
        have c16b0 : (t206 == (-1)) = true := beq_iff_eq.mpr c16
        have c16b1 : (t206 != (-1)) = false := bne_eq_false_iff_eq.mpr c16
        clear c16
        obtain rfl := Option.some.inj H
        go_enter Tryd.func13, Tryd.ntmps13
        go_wp2_with (first | ((with_reducible refine gate_callee (f := 11) rfl ?_); refine goesL_ (some 8) rfl rfl Tryd.func11 (by kernel_rfl) rfl #[.string (⟨#[118, 49, 46, 48, 46, 48, 45, 50]⟩ : ByteArray), .string (⟨#[118, 49, 46, 48, 46, 48, 45, 49, 48]⟩ : ByteArray)] rfl (by (try simp only [List.map_toArray, List.map_cons, List.map_nil]); first | done | rfl | (simp only [List.length_drop, List.length_take]; rfl)) ?_; (with_reducible refine (version_Cmp.calls k (⟨#[118, 49, 46, 48, 46, 48, 45, 50]⟩ : ByteArray) (⟨#[118, 49, 46, 48, 46, 48, 45, 49, 48]⟩ : ByteArray) t202 t203 _ A1.out).mono ?_); rintro e w17 ⟨rfl, hb⟩; refine ⟨_, rfl, ?_⟩; have n0_ := Aside0.mk (below_step (by repeat (first | (with_reducible first | exact HB.out | apply below_alloc | apply pw_below_drewN | apply below_drew1) | exact HB.out)) hb); clear HB; have HB := n0_; clear n0_; (try clear hb); (try clear hb2); (try clear hk); (try clear hi)) | ((with_reducible refine gate_callee (f := 11) rfl ?_); refine goesL_ (some 12) rfl rfl Tryd.func11 (by kernel_rfl) rfl #[.string (⟨#[118, 49, 46, 48, 46, 48, 45, 49, 48]⟩ : ByteArray), .string (⟨#[118, 49, 46, 48, 46, 48, 45, 97]⟩ : ByteArray)] rfl (by (try simp only [List.map_toArray, List.map_cons, List.map_nil]); first | done | rfl | (simp only [List.length_drop, List.length_take]; rfl)) ?_; (with_reducible refine (version_Cmp.calls k (⟨#[118, 49, 46, 48, 46, 48, 45, 49, 48]⟩ : ByteArray) (⟨#[118, 49, 46, 48, 46, 48, 45, 97]⟩ : ByteArray) t204 t205 _ A2.out).mono ?_); rintro e w18 ⟨rfl, hb⟩; refine ⟨_, rfl, ?_⟩; have n0_ := Aside0.mk (below_step (by repeat (first | (with_reducible first | exact HB.out | apply below_alloc | apply pw_below_drewN | apply below_drew1) | exact HB.out)) hb); clear HB; have HB := n0_; clear n0_; (try clear hb); (try clear hb2); (try clear hk); (try clear hi)) | ((with_reducible refine gate_callee (f := 11) rfl ?_); refine goesL_ (some 16) rfl rfl Tryd.func11 (by kernel_rfl) rfl #[.string (⟨#[118, 49, 46, 48, 46, 48, 45, 97]⟩ : ByteArray), .string (⟨#[118, 49, 46, 48, 46, 48]⟩ : ByteArray)] rfl (by (try simp only [List.map_toArray, List.map_cons, List.map_nil]); first | done | rfl | (simp only [List.length_drop, List.length_take]; rfl)) ?_; (with_reducible refine (version_Cmp.calls k (⟨#[118, 49, 46, 48, 46, 48, 45, 97]⟩ : ByteArray) (⟨#[118, 49, 46, 48, 46, 48]⟩ : ByteArray) t206 t207 _ A3.out).mono ?_); rintro e w19 ⟨rfl, hb⟩; refine ⟨_, rfl, ?_⟩; have n0_ := Aside0.mk (below_step (by repeat (first | (with_reducible first | exact HB.out | apply below_alloc | apply pw_below_drewN | apply below_drew1) | exact HB.out)) hb); clear HB; have HB := n0_; clear n0_; (try clear hb); (try clear hb2); (try clear hk); (try clear hi)) | ((with_reducible refine gate_callee (f := 12) rfl ?_); refine goesL_ (some 19) rfl rfl Tryd.func12 (by kernel_rfl) rfl #[.string (⟨#[118, 49, 46, 48, 46, 48, 45, 48, 49]⟩ : ByteArray)] rfl (by (try simp only [List.map_toArray, List.map_cons, List.map_nil]); first | done | rfl | (simp only [List.length_drop, List.length_take]; rfl)) ?_; (with_reducible refine (version_May.calls k (⟨#[118, 49, 46, 48, 46, 48, 45, 48, 49]⟩ : ByteArray) false _ A4.out).mono ?_); rintro e w20 ⟨rfl, hb⟩; refine ⟨_, rfl, ?_⟩; have n0_ := Aside0.mk (below_step (by repeat (first | (with_reducible first | exact HB.out | apply below_alloc | apply pw_below_drewN | apply below_drew1) | exact HB.out)) hb); clear HB; have HB := n0_; clear n0_; (try clear hb); (try clear hb2); (try clear hk); (try clear hi)) | (go_at_call 12; (with_reducible refine (version_May.calls k (⟨#[118, 49, 46, 48, 46, 48, 45, 48, 49, 97]⟩ : ByteArray) true _ A10.out).mono ?_); rintro e w21 ⟨rfl, hb⟩; have n0_ := Aside0.mk (below_step (by repeat (first | (with_reducible first | exact HB.out | apply below_alloc | apply pw_below_drewN | apply below_drew1) | exact HB.out)) hb); clear HB; have HB := n0_; clear n0_; (try clear hb); (try clear hb2); (try clear hk); (try clear hi)))
        go_ret
        exact ⟨by first | rfl | (simp [errW_none, errW_some] <;> rfl) | (simp [*, errW_none, errW_some] <;> rfl), by repeat (first | (with_reducible first | exact HB.out | apply below_alloc | apply pw_below_drewN | apply below_drew1) | exact HB.out)⟩
       ·rw [if_neg c16] at H
        have c16b0 : (t206 == (-1)) = false := beq_eq_false_iff_ne.mpr c16
        have c16b1 : (t206 != (-1)) = true := bne_iff_ne.mpr c16
        obtain rfl := Option.some.inj H
        go_enter Tryd.func13, Tryd.ntmps13
        go_wp2_with (first | ((with_reducible refine gate_callee (f := 11) rfl ?_); refine goesL_ (some 8) rfl rfl Tryd.func11 (by kernel_rfl) rfl #[.string (⟨#[118, 49, 46, 48, 46, 48, 45, 50]⟩ : ByteArray), .string (⟨#[118, 49, 46, 48, 46, 48, 45, 49, 48]⟩ : ByteArray)] rfl (by (try simp only [List.map_toArray, List.map_cons, List.map_nil]); first | done | rfl | (simp only [List.length_drop, List.length_take]; rfl)) ?_; (with_reducible refine (version_Cmp.calls k (⟨#[118, 49, 46, 48, 46, 48, 45, 50]⟩ : ByteArray) (⟨#[118, 49, 46, 48, 46, 48, 45, 49, 48]⟩ : ByteArray) t202 t203 _ A1.out).mono ?_); rintro e w22 ⟨rfl, hb⟩; refine ⟨_, rfl, ?_⟩; have n0_ := Aside0.mk (below_step (by repeat (first | (with_reducible first | exact HB.out | apply below_alloc | apply pw_below_drewN | apply below_drew1) | exact HB.out)) hb); clear HB; have HB := n0_; clear n0_; (try clear hb); (try clear hb2); (try clear hk); (try clear hi)) | ((with_reducible refine gate_callee (f := 11) rfl ?_); refine goesL_ (some 12) rfl rfl Tryd.func11 (by kernel_rfl) rfl #[.string (⟨#[118, 49, 46, 48, 46, 48, 45, 49, 48]⟩ : ByteArray), .string (⟨#[118, 49, 46, 48, 46, 48, 45, 97]⟩ : ByteArray)] rfl (by (try simp only [List.map_toArray, List.map_cons, List.map_nil]); first | done | rfl | (simp only [List.length_drop, List.length_take]; rfl)) ?_; (with_reducible refine (version_Cmp.calls k (⟨#[118, 49, 46, 48, 46, 48, 45, 49, 48]⟩ : ByteArray) (⟨#[118, 49, 46, 48, 46, 48, 45, 97]⟩ : ByteArray) t204 t205 _ A2.out).mono ?_); rintro e w23 ⟨rfl, hb⟩; refine ⟨_, rfl, ?_⟩; have n0_ := Aside0.mk (below_step (by repeat (first | (with_reducible first | exact HB.out | apply below_alloc | apply pw_below_drewN | apply below_drew1) | exact HB.out)) hb); clear HB; have HB := n0_; clear n0_; (try clear hb); (try clear hb2); (try clear hk); (try clear hi)) | ((with_reducible refine gate_callee (f := 11) rfl ?_); refine goesL_ (some 16) rfl rfl Tryd.func11 (by kernel_rfl) rfl #[.string (⟨#[118, 49, 46, 48, 46, 48, 45, 97]⟩ : ByteArray), .string (⟨#[118, 49, 46, 48, 46, 48]⟩ : ByteArray)] rfl (by (try simp only [List.map_toArray, List.map_cons, List.map_nil]); first | done | rfl | (simp only [List.length_drop, List.length_take]; rfl)) ?_; (with_reducible refine (version_Cmp.calls k (⟨#[118, 49, 46, 48, 46, 48, 45, 97]⟩ : ByteArray) (⟨#[118, 49, 46, 48, 46, 48]⟩ : ByteArray) t206 t207 _ A3.out).mono ?_); rintro e w24 ⟨rfl, hb⟩; refine ⟨_, rfl, ?_⟩; have n0_ := Aside0.mk (below_step (by repeat (first | (with_reducible first | exact HB.out | apply below_alloc | apply pw_below_drewN | apply below_drew1) | exact HB.out)) hb); clear HB; have HB := n0_; clear n0_; (try clear hb); (try clear hb2); (try clear hk); (try clear hi)) | ((with_reducible refine gate_callee (f := 12) rfl ?_); refine goesL_ (some 19) rfl rfl Tryd.func12 (by kernel_rfl) rfl #[.string (⟨#[118, 49, 46, 48, 46, 48, 45, 48, 49]⟩ : ByteArray)] rfl (by (try simp only [List.map_toArray, List.map_cons, List.map_nil]); first | done | rfl | (simp only [List.length_drop, List.length_take]; rfl)) ?_; (with_reducible refine (version_May.calls k (⟨#[118, 49, 46, 48, 46, 48, 45, 48, 49]⟩ : ByteArray) false _ A4.out).mono ?_); rintro e w25 ⟨rfl, hb⟩; refine ⟨_, rfl, ?_⟩; have n0_ := Aside0.mk (below_step (by repeat (first | (with_reducible first | exact HB.out | apply below_alloc | apply pw_below_drewN | apply below_drew1) | exact HB.out)) hb); clear HB; have HB := n0_; clear n0_; (try clear hb); (try clear hb2); (try clear hk); (try clear hi)) | (go_at_call 12; (with_reducible refine (version_May.calls k (⟨#[118, 49, 46, 48, 46, 48, 45, 48, 49, 97]⟩ : ByteArray) true _ A10.out).mono ?_); rintro e w26 ⟨rfl, hb⟩; have n0_ := Aside0.mk (below_step (by repeat (first | (with_reducible first | exact HB.out | apply below_alloc | apply pw_below_drewN | apply below_drew1) | exact HB.out)) hb); clear HB; have HB := n0_; clear n0_; (try clear hb); (try clear hb2); (try clear hk); (try clear hi)))
        go_ret
        exact ⟨by first | rfl | (simp [errW_none, errW_some] <;> rfl) | (simp [*, errW_none, errW_some] <;> rfl), by repeat (first | (with_reducible first | exact HB.out | apply below_alloc | apply pw_below_drewN | apply below_drew1) | exact HB.out)⟩
      ·rw [if_neg c15] at H
       have c15b0 : (t205 == 0) = false := beq_eq_false_iff_ne.mpr c15
       have c15b1 : (t205 != 0) = true := bne_iff_ne.mpr c15
       obtain rfl := Option.some.inj H
       go_enter Tryd.func13, Tryd.ntmps13
       go_wp2_with (first | ((with_reducible refine gate_callee (f := 11) rfl ?_); refine goesL_ (some 8) rfl rfl Tryd.func11 (by kernel_rfl) rfl #[.string (⟨#[118, 49, 46, 48, 46, 48, 45, 50]⟩ : ByteArray), .string (⟨#[118, 49, 46, 48, 46, 48, 45, 49, 48]⟩ : ByteArray)] rfl (by (try simp only [List.map_toArray, List.map_cons, List.map_nil]); first | done | rfl | (simp only [List.length_drop, List.length_take]; rfl)) ?_; (with_reducible refine (version_Cmp.calls k (⟨#[118, 49, 46, 48, 46, 48, 45, 50]⟩ : ByteArray) (⟨#[118, 49, 46, 48, 46, 48, 45, 49, 48]⟩ : ByteArray) t202 t203 _ A1.out).mono ?_); rintro e w27 ⟨rfl, hb⟩; refine ⟨_, rfl, ?_⟩; have n0_ := Aside0.mk (below_step (by repeat (first | (with_reducible first | exact HB.out | apply below_alloc | apply pw_below_drewN | apply below_drew1) | exact HB.out)) hb); clear HB; have HB := n0_; clear n0_; (try clear hb); (try clear hb2); (try clear hk); (try clear hi)) | ((with_reducible refine gate_callee (f := 11) rfl ?_); refine goesL_ (some 12) rfl rfl Tryd.func11 (by kernel_rfl) rfl #[.string (⟨#[118, 49, 46, 48, 46, 48, 45, 49, 48]⟩ : ByteArray), .string (⟨#[118, 49, 46, 48, 46, 48, 45, 97]⟩ : ByteArray)] rfl (by (try simp only [List.map_toArray, List.map_cons, List.map_nil]); first | done | rfl | (simp only [List.length_drop, List.length_take]; rfl)) ?_; (with_reducible refine (version_Cmp.calls k (⟨#[118, 49, 46, 48, 46, 48, 45, 49, 48]⟩ : ByteArray) (⟨#[118, 49, 46, 48, 46, 48, 45, 97]⟩ : ByteArray) t204 t205 _ A2.out).mono ?_); rintro e w28 ⟨rfl, hb⟩; refine ⟨_, rfl, ?_⟩; have n0_ := Aside0.mk (below_step (by repeat (first | (with_reducible first | exact HB.out | apply below_alloc | apply pw_below_drewN | apply below_drew1) | exact HB.out)) hb); clear HB; have HB := n0_; clear n0_; (try clear hb); (try clear hb2); (try clear hk); (try clear hi)) | ((with_reducible refine gate_callee (f := 11) rfl ?_); refine goesL_ (some 16) rfl rfl Tryd.func11 (by kernel_rfl) rfl #[.string (⟨#[118, 49, 46, 48, 46, 48, 45, 97]⟩ : ByteArray), .string (⟨#[118, 49, 46, 48, 46, 48]⟩ : ByteArray)] rfl (by (try simp only [List.map_toArray, List.map_cons, List.map_nil]); first | done | rfl | (simp only [List.length_drop, List.length_take]; rfl)) ?_; (with_reducible refine (version_Cmp.calls k (⟨#[118, 49, 46, 48, 46, 48, 45, 97]⟩ : ByteArray) (⟨#[118, 49, 46, 48, 46, 48]⟩ : ByteArray) t206 t207 _ A3.out).mono ?_); rintro e w29 ⟨rfl, hb⟩; refine ⟨_, rfl, ?_⟩; have n0_ := Aside0.mk (below_step (by repeat (first | (with_reducible first | exact HB.out | apply below_alloc | apply pw_below_drewN | apply below_drew1) | exact HB.out)) hb); clear HB; have HB := n0_; clear n0_; (try clear hb); (try clear hb2); (try clear hk); (try clear hi)) | ((with_reducible refine gate_callee (f := 12) rfl ?_); refine goesL_ (some 19) rfl rfl Tryd.func12 (by kernel_rfl) rfl #[.string (⟨#[118, 49, 46, 48, 46, 48, 45, 48, 49]⟩ : ByteArray)] rfl (by (try simp only [List.map_toArray, List.map_cons, List.map_nil]); first | done | rfl | (simp only [List.length_drop, List.length_take]; rfl)) ?_; (with_reducible refine (version_May.calls k (⟨#[118, 49, 46, 48, 46, 48, 45, 48, 49]⟩ : ByteArray) false _ A4.out).mono ?_); rintro e w30 ⟨rfl, hb⟩; refine ⟨_, rfl, ?_⟩; have n0_ := Aside0.mk (below_step (by repeat (first | (with_reducible first | exact HB.out | apply below_alloc | apply pw_below_drewN | apply below_drew1) | exact HB.out)) hb); clear HB; have HB := n0_; clear n0_; (try clear hb); (try clear hb2); (try clear hk); (try clear hi)) | (go_at_call 12; (with_reducible refine (version_May.calls k (⟨#[118, 49, 46, 48, 46, 48, 45, 48, 49, 97]⟩ : ByteArray) true _ A10.out).mono ?_); rintro e w31 ⟨rfl, hb⟩; have n0_ := Aside0.mk (below_step (by repeat (first | (with_reducible first | exact HB.out | apply below_alloc | apply pw_below_drewN | apply below_drew1) | exact HB.out)) hb); clear HB; have HB := n0_; clear n0_; (try clear hb); (try clear hb2); (try clear hk); (try clear hi)))
       go_ret
       exact ⟨by first | rfl | (simp [errW_none, errW_some] <;> rfl) | (simp [*, errW_none, errW_some] <;> rfl), by repeat (first | (with_reducible first | exact HB.out | apply below_alloc | apply pw_below_drewN | apply below_drew1) | exact HB.out)⟩
     ·rw [if_neg c14] at H
      have c14b0 : (t204 == (-1)) = false := beq_eq_false_iff_ne.mpr c14
      have c14b1 : (t204 != (-1)) = true := bne_iff_ne.mpr c14
      obtain rfl := Option.some.inj H
      go_enter Tryd.func13, Tryd.ntmps13
      go_wp2_with (first | ((with_reducible refine gate_callee (f := 11) rfl ?_); refine goesL_ (some 8) rfl rfl Tryd.func11 (by kernel_rfl) rfl #[.string (⟨#[118, 49, 46, 48, 46, 48, 45, 50]⟩ : ByteArray), .string (⟨#[118, 49, 46, 48, 46, 48, 45, 49, 48]⟩ : ByteArray)] rfl (by (try simp only [List.map_toArray, List.map_cons, List.map_nil]); first | done | rfl | (simp only [List.length_drop, List.length_take]; rfl)) ?_; (with_reducible refine (version_Cmp.calls k (⟨#[118, 49, 46, 48, 46, 48, 45, 50]⟩ : ByteArray) (⟨#[118, 49, 46, 48, 46, 48, 45, 49, 48]⟩ : ByteArray) t202 t203 _ A1.out).mono ?_); rintro e w32 ⟨rfl, hb⟩; refine ⟨_, rfl, ?_⟩; have n0_ := Aside0.mk (below_step (by repeat (first | (with_reducible first | exact HB.out | apply below_alloc | apply pw_below_drewN | apply below_drew1) | exact HB.out)) hb); clear HB; have HB := n0_; clear n0_; (try clear hb); (try clear hb2); (try clear hk); (try clear hi)) | ((with_reducible refine gate_callee (f := 11) rfl ?_); refine goesL_ (some 12) rfl rfl Tryd.func11 (by kernel_rfl) rfl #[.string (⟨#[118, 49, 46, 48, 46, 48, 45, 49, 48]⟩ : ByteArray), .string (⟨#[118, 49, 46, 48, 46, 48, 45, 97]⟩ : ByteArray)] rfl (by (try simp only [List.map_toArray, List.map_cons, List.map_nil]); first | done | rfl | (simp only [List.length_drop, List.length_take]; rfl)) ?_; (with_reducible refine (version_Cmp.calls k (⟨#[118, 49, 46, 48, 46, 48, 45, 49, 48]⟩ : ByteArray) (⟨#[118, 49, 46, 48, 46, 48, 45, 97]⟩ : ByteArray) t204 t205 _ A2.out).mono ?_); rintro e w33 ⟨rfl, hb⟩; refine ⟨_, rfl, ?_⟩; have n0_ := Aside0.mk (below_step (by repeat (first | (with_reducible first | exact HB.out | apply below_alloc | apply pw_below_drewN | apply below_drew1) | exact HB.out)) hb); clear HB; have HB := n0_; clear n0_; (try clear hb); (try clear hb2); (try clear hk); (try clear hi)) | ((with_reducible refine gate_callee (f := 11) rfl ?_); refine goesL_ (some 16) rfl rfl Tryd.func11 (by kernel_rfl) rfl #[.string (⟨#[118, 49, 46, 48, 46, 48, 45, 97]⟩ : ByteArray), .string (⟨#[118, 49, 46, 48, 46, 48]⟩ : ByteArray)] rfl (by (try simp only [List.map_toArray, List.map_cons, List.map_nil]); first | done | rfl | (simp only [List.length_drop, List.length_take]; rfl)) ?_; (with_reducible refine (version_Cmp.calls k (⟨#[118, 49, 46, 48, 46, 48, 45, 97]⟩ : ByteArray) (⟨#[118, 49, 46, 48, 46, 48]⟩ : ByteArray) t206 t207 _ A3.out).mono ?_); rintro e w34 ⟨rfl, hb⟩; refine ⟨_, rfl, ?_⟩; have n0_ := Aside0.mk (below_step (by repeat (first | (with_reducible first | exact HB.out | apply below_alloc | apply pw_below_drewN | apply below_drew1) | exact HB.out)) hb); clear HB; have HB := n0_; clear n0_; (try clear hb); (try clear hb2); (try clear hk); (try clear hi)) | ((with_reducible refine gate_callee (f := 12) rfl ?_); refine goesL_ (some 19) rfl rfl Tryd.func12 (by kernel_rfl) rfl #[.string (⟨#[118, 49, 46, 48, 46, 48, 45, 48, 49]⟩ : ByteArray)] rfl (by (try simp only [List.map_toArray, List.map_cons, List.map_nil]); first | done | rfl | (simp only [List.length_drop, List.length_take]; rfl)) ?_; (with_reducible refine (version_May.calls k (⟨#[118, 49, 46, 48, 46, 48, 45, 48, 49]⟩ : ByteArray) false _ A4.out).mono ?_); rintro e w35 ⟨rfl, hb⟩; refine ⟨_, rfl, ?_⟩; have n0_ := Aside0.mk (below_step (by repeat (first | (with_reducible first | exact HB.out | apply below_alloc | apply pw_below_drewN | apply below_drew1) | exact HB.out)) hb); clear HB; have HB := n0_; clear n0_; (try clear hb); (try clear hb2); (try clear hk); (try clear hi)) | (go_at_call 12; (with_reducible refine (version_May.calls k (⟨#[118, 49, 46, 48, 46, 48, 45, 48, 49, 97]⟩ : ByteArray) true _ A10.out).mono ?_); rintro e w36 ⟨rfl, hb⟩; have n0_ := Aside0.mk (below_step (by repeat (first | (with_reducible first | exact HB.out | apply below_alloc | apply pw_below_drewN | apply below_drew1) | exact HB.out)) hb); clear HB; have HB := n0_; clear n0_; (try clear hb); (try clear hb2); (try clear hk); (try clear hi)))
      go_ret
      exact ⟨by first | rfl | (simp [errW_none, errW_some] <;> rfl) | (simp [*, errW_none, errW_some] <;> rfl), by repeat (first | (with_reducible first | exact HB.out | apply below_alloc | apply pw_below_drewN | apply below_drew1) | exact HB.out)⟩
    ·rw [if_neg c13] at H
     have c13b0 : (t203 == 0) = false := beq_eq_false_iff_ne.mpr c13
     have c13b1 : (t203 != 0) = true := bne_iff_ne.mpr c13
     obtain rfl := Option.some.inj H
     go_enter Tryd.func13, Tryd.ntmps13
     go_wp2_with (first | ((with_reducible refine gate_callee (f := 11) rfl ?_); refine goesL_ (some 8) rfl rfl Tryd.func11 (by kernel_rfl) rfl #[.string (⟨#[118, 49, 46, 48, 46, 48, 45, 50]⟩ : ByteArray), .string (⟨#[118, 49, 46, 48, 46, 48, 45, 49, 48]⟩ : ByteArray)] rfl (by (try simp only [List.map_toArray, List.map_cons, List.map_nil]); first | done | rfl | (simp only [List.length_drop, List.length_take]; rfl)) ?_; (with_reducible refine (version_Cmp.calls k (⟨#[118, 49, 46, 48, 46, 48, 45, 50]⟩ : ByteArray) (⟨#[118, 49, 46, 48, 46, 48, 45, 49, 48]⟩ : ByteArray) t202 t203 _ A1.out).mono ?_); rintro e w37 ⟨rfl, hb⟩; refine ⟨_, rfl, ?_⟩; have n0_ := Aside0.mk (below_step (by repeat (first | (with_reducible first | exact HB.out | apply below_alloc | apply pw_below_drewN | apply below_drew1) | exact HB.out)) hb); clear HB; have HB := n0_; clear n0_; (try clear hb); (try clear hb2); (try clear hk); (try clear hi)) | ((with_reducible refine gate_callee (f := 11) rfl ?_); refine goesL_ (some 12) rfl rfl Tryd.func11 (by kernel_rfl) rfl #[.string (⟨#[118, 49, 46, 48, 46, 48, 45, 49, 48]⟩ : ByteArray), .string (⟨#[118, 49, 46, 48, 46, 48, 45, 97]⟩ : ByteArray)] rfl (by (try simp only [List.map_toArray, List.map_cons, List.map_nil]); first | done | rfl | (simp only [List.length_drop, List.length_take]; rfl)) ?_; (with_reducible refine (version_Cmp.calls k (⟨#[118, 49, 46, 48, 46, 48, 45, 49, 48]⟩ : ByteArray) (⟨#[118, 49, 46, 48, 46, 48, 45, 97]⟩ : ByteArray) t204 t205 _ A2.out).mono ?_); rintro e w38 ⟨rfl, hb⟩; refine ⟨_, rfl, ?_⟩; have n0_ := Aside0.mk (below_step (by repeat (first | (with_reducible first | exact HB.out | apply below_alloc | apply pw_below_drewN | apply below_drew1) | exact HB.out)) hb); clear HB; have HB := n0_; clear n0_; (try clear hb); (try clear hb2); (try clear hk); (try clear hi)) | ((with_reducible refine gate_callee (f := 11) rfl ?_); refine goesL_ (some 16) rfl rfl Tryd.func11 (by kernel_rfl) rfl #[.string (⟨#[118, 49, 46, 48, 46, 48, 45, 97]⟩ : ByteArray), .string (⟨#[118, 49, 46, 48, 46, 48]⟩ : ByteArray)] rfl (by (try simp only [List.map_toArray, List.map_cons, List.map_nil]); first | done | rfl | (simp only [List.length_drop, List.length_take]; rfl)) ?_; (with_reducible refine (version_Cmp.calls k (⟨#[118, 49, 46, 48, 46, 48, 45, 97]⟩ : ByteArray) (⟨#[118, 49, 46, 48, 46, 48]⟩ : ByteArray) t206 t207 _ A3.out).mono ?_); rintro e w39 ⟨rfl, hb⟩; refine ⟨_, rfl, ?_⟩; have n0_ := Aside0.mk (below_step (by repeat (first | (with_reducible first | exact HB.out | apply below_alloc | apply pw_below_drewN | apply below_drew1) | exact HB.out)) hb); clear HB; have HB := n0_; clear n0_; (try clear hb); (try clear hb2); (try clear hk); (try clear hi)) | ((with_reducible refine gate_callee (f := 12) rfl ?_); refine goesL_ (some 19) rfl rfl Tryd.func12 (by kernel_rfl) rfl #[.string (⟨#[118, 49, 46, 48, 46, 48, 45, 48, 49]⟩ : ByteArray)] rfl (by (try simp only [List.map_toArray, List.map_cons, List.map_nil]); first | done | rfl | (simp only [List.length_drop, List.length_take]; rfl)) ?_; (with_reducible refine (version_May.calls k (⟨#[118, 49, 46, 48, 46, 48, 45, 48, 49]⟩ : ByteArray) false _ A4.out).mono ?_); rintro e w40 ⟨rfl, hb⟩; refine ⟨_, rfl, ?_⟩; have n0_ := Aside0.mk (below_step (by repeat (first | (with_reducible first | exact HB.out | apply below_alloc | apply pw_below_drewN | apply below_drew1) | exact HB.out)) hb); clear HB; have HB := n0_; clear n0_; (try clear hb); (try clear hb2); (try clear hk); (try clear hi)) | (go_at_call 12; (with_reducible refine (version_May.calls k (⟨#[118, 49, 46, 48, 46, 48, 45, 48, 49, 97]⟩ : ByteArray) true _ A10.out).mono ?_); rintro e w41 ⟨rfl, hb⟩; have n0_ := Aside0.mk (below_step (by repeat (first | (with_reducible first | exact HB.out | apply below_alloc | apply pw_below_drewN | apply below_drew1) | exact HB.out)) hb); clear HB; have HB := n0_; clear n0_; (try clear hb); (try clear hb2); (try clear hk); (try clear hi)))
     go_ret
     exact ⟨by first | rfl | (simp [errW_none, errW_some] <;> rfl) | (simp [*, errW_none, errW_some] <;> rfl), by repeat (first | (with_reducible first | exact HB.out | apply below_alloc | apply pw_below_drewN | apply below_drew1) | exact HB.out)⟩
   ·rw [if_neg c12] at H
    have c12b0 : (t202 == (-1)) = false := beq_eq_false_iff_ne.mpr c12
    have c12b1 : (t202 != (-1)) = true := bne_iff_ne.mpr c12
    obtain rfl := Option.some.inj H
    go_enter Tryd.func13, Tryd.ntmps13
    go_wp2_with (first | ((with_reducible refine gate_callee (f := 11) rfl ?_); refine goesL_ (some 8) rfl rfl Tryd.func11 (by kernel_rfl) rfl #[.string (⟨#[118, 49, 46, 48, 46, 48, 45, 50]⟩ : ByteArray), .string (⟨#[118, 49, 46, 48, 46, 48, 45, 49, 48]⟩ : ByteArray)] rfl (by (try simp only [List.map_toArray, List.map_cons, List.map_nil]); first | done | rfl | (simp only [List.length_drop, List.length_take]; rfl)) ?_; (with_reducible refine (version_Cmp.calls k (⟨#[118, 49, 46, 48, 46, 48, 45, 50]⟩ : ByteArray) (⟨#[118, 49, 46, 48, 46, 48, 45, 49, 48]⟩ : ByteArray) t202 t203 _ A1.out).mono ?_); rintro e w42 ⟨rfl, hb⟩; refine ⟨_, rfl, ?_⟩; have n0_ := Aside0.mk (below_step (by repeat (first | (with_reducible first | exact HB.out | apply below_alloc | apply pw_below_drewN | apply below_drew1) | exact HB.out)) hb); clear HB; have HB := n0_; clear n0_; (try clear hb); (try clear hb2); (try clear hk); (try clear hi)) | ((with_reducible refine gate_callee (f := 11) rfl ?_); refine goesL_ (some 12) rfl rfl Tryd.func11 (by kernel_rfl) rfl #[.string (⟨#[118, 49, 46, 48, 46, 48, 45, 49, 48]⟩ : ByteArray), .string (⟨#[118, 49, 46, 48, 46, 48, 45, 97]⟩ : ByteArray)] rfl (by (try simp only [List.map_toArray, List.map_cons, List.map_nil]); first | done | rfl | (simp only [List.length_drop, List.length_take]; rfl)) ?_; (with_reducible refine (version_Cmp.calls k (⟨#[118, 49, 46, 48, 46, 48, 45, 49, 48]⟩ : ByteArray) (⟨#[118, 49, 46, 48, 46, 48, 45, 97]⟩ : ByteArray) t204 t205 _ A2.out).mono ?_); rintro e w43 ⟨rfl, hb⟩; refine ⟨_, rfl, ?_⟩; have n0_ := Aside0.mk (below_step (by repeat (first | (with_reducible first | exact HB.out | apply below_alloc | apply pw_below_drewN | apply below_drew1) | exact HB.out)) hb); clear HB; have HB := n0_; clear n0_; (try clear hb); (try clear hb2); (try clear hk); (try clear hi)) | ((with_reducible refine gate_callee (f := 11) rfl ?_); refine goesL_ (some 16) rfl rfl Tryd.func11 (by kernel_rfl) rfl #[.string (⟨#[118, 49, 46, 48, 46, 48, 45, 97]⟩ : ByteArray), .string (⟨#[118, 49, 46, 48, 46, 48]⟩ : ByteArray)] rfl (by (try simp only [List.map_toArray, List.map_cons, List.map_nil]); first | done | rfl | (simp only [List.length_drop, List.length_take]; rfl)) ?_; (with_reducible refine (version_Cmp.calls k (⟨#[118, 49, 46, 48, 46, 48, 45, 97]⟩ : ByteArray) (⟨#[118, 49, 46, 48, 46, 48]⟩ : ByteArray) t206 t207 _ A3.out).mono ?_); rintro e w44 ⟨rfl, hb⟩; refine ⟨_, rfl, ?_⟩; have n0_ := Aside0.mk (below_step (by repeat (first | (with_reducible first | exact HB.out | apply below_alloc | apply pw_below_drewN | apply below_drew1) | exact HB.out)) hb); clear HB; have HB := n0_; clear n0_; (try clear hb); (try clear hb2); (try clear hk); (try clear hi)) | ((with_reducible refine gate_callee (f := 12) rfl ?_); refine goesL_ (some 19) rfl rfl Tryd.func12 (by kernel_rfl) rfl #[.string (⟨#[118, 49, 46, 48, 46, 48, 45, 48, 49]⟩ : ByteArray)] rfl (by (try simp only [List.map_toArray, List.map_cons, List.map_nil]); first | done | rfl | (simp only [List.length_drop, List.length_take]; rfl)) ?_; (with_reducible refine (version_May.calls k (⟨#[118, 49, 46, 48, 46, 48, 45, 48, 49]⟩ : ByteArray) false _ A4.out).mono ?_); rintro e w45 ⟨rfl, hb⟩; refine ⟨_, rfl, ?_⟩; have n0_ := Aside0.mk (below_step (by repeat (first | (with_reducible first | exact HB.out | apply below_alloc | apply pw_below_drewN | apply below_drew1) | exact HB.out)) hb); clear HB; have HB := n0_; clear n0_; (try clear hb); (try clear hb2); (try clear hk); (try clear hi)) | (go_at_call 12; (with_reducible refine (version_May.calls k (⟨#[118, 49, 46, 48, 46, 48, 45, 48, 49, 97]⟩ : ByteArray) true _ A10.out).mono ?_); rintro e w46 ⟨rfl, hb⟩; have n0_ := Aside0.mk (below_step (by repeat (first | (with_reducible first | exact HB.out | apply below_alloc | apply pw_below_drewN | apply below_drew1) | exact HB.out)) hb); clear HB; have HB := n0_; clear n0_; (try clear hb); (try clear hb2); (try clear hk); (try clear hi)))
    go_ret
    exact ⟨by first | rfl | (simp [errW_none, errW_some] <;> rfl) | (simp [*, errW_none, errW_some] <;> rfl), by repeat (first | (with_reducible first | exact HB.out | apply below_alloc | apply pw_below_drewN | apply below_drew1) | exact HB.out)⟩
  ·replace c11 := Bool.eq_false_iff.mpr c11
   subst c11
   have H1 : (some false) = some r := by rw [if_neg (show ¬ (false = true) by decide)] at H; exact H
   clear H
   have H := H1
   clear H1
   obtain rfl := Option.some.inj H
   go_enter Tryd.func13, Tryd.ntmps13
   go_wp2_with (first | ((with_reducible refine gate_callee (f := 11) rfl ?_); refine goesL_ (some 8) rfl rfl Tryd.func11 (by kernel_rfl) rfl #[.string (⟨#[118, 49, 46, 48, 46, 48, 45, 50]⟩ : ByteArray), .string (⟨#[118, 49, 46, 48, 46, 48, 45, 49, 48]⟩ : ByteArray)] rfl (by (try simp only [List.map_toArray, List.map_cons, List.map_nil]); first | done | rfl | (simp only [List.length_drop, List.length_take]; rfl)) ?_; (with_reducible refine (version_Cmp.calls k (⟨#[118, 49, 46, 48, 46, 48, 45, 50]⟩ : ByteArray) (⟨#[118, 49, 46, 48, 46, 48, 45, 49, 48]⟩ : ByteArray) t202 t203 _ A1.out).mono ?_); rintro e w47 ⟨rfl, hb⟩; refine ⟨_, rfl, ?_⟩; have n0_ := Aside0.mk (below_step (by repeat (first | (with_reducible first | exact HB.out | apply below_alloc | apply pw_below_drewN | apply below_drew1) | exact HB.out)) hb); clear HB; have HB := n0_; clear n0_; (try clear hb); (try clear hb2); (try clear hk); (try clear hi)) | ((with_reducible refine gate_callee (f := 11) rfl ?_); refine goesL_ (some 12) rfl rfl Tryd.func11 (by kernel_rfl) rfl #[.string (⟨#[118, 49, 46, 48, 46, 48, 45, 49, 48]⟩ : ByteArray), .string (⟨#[118, 49, 46, 48, 46, 48, 45, 97]⟩ : ByteArray)] rfl (by (try simp only [List.map_toArray, List.map_cons, List.map_nil]); first | done | rfl | (simp only [List.length_drop, List.length_take]; rfl)) ?_; (with_reducible refine (version_Cmp.calls k (⟨#[118, 49, 46, 48, 46, 48, 45, 49, 48]⟩ : ByteArray) (⟨#[118, 49, 46, 48, 46, 48, 45, 97]⟩ : ByteArray) t204 t205 _ A2.out).mono ?_); rintro e w48 ⟨rfl, hb⟩; refine ⟨_, rfl, ?_⟩; have n0_ := Aside0.mk (below_step (by repeat (first | (with_reducible first | exact HB.out | apply below_alloc | apply pw_below_drewN | apply below_drew1) | exact HB.out)) hb); clear HB; have HB := n0_; clear n0_; (try clear hb); (try clear hb2); (try clear hk); (try clear hi)) | ((with_reducible refine gate_callee (f := 11) rfl ?_); refine goesL_ (some 16) rfl rfl Tryd.func11 (by kernel_rfl) rfl #[.string (⟨#[118, 49, 46, 48, 46, 48, 45, 97]⟩ : ByteArray), .string (⟨#[118, 49, 46, 48, 46, 48]⟩ : ByteArray)] rfl (by (try simp only [List.map_toArray, List.map_cons, List.map_nil]); first | done | rfl | (simp only [List.length_drop, List.length_take]; rfl)) ?_; (with_reducible refine (version_Cmp.calls k (⟨#[118, 49, 46, 48, 46, 48, 45, 97]⟩ : ByteArray) (⟨#[118, 49, 46, 48, 46, 48]⟩ : ByteArray) t206 t207 _ A3.out).mono ?_); rintro e w49 ⟨rfl, hb⟩; refine ⟨_, rfl, ?_⟩; have n0_ := Aside0.mk (below_step (by repeat (first | (with_reducible first | exact HB.out | apply below_alloc | apply pw_below_drewN | apply below_drew1) | exact HB.out)) hb); clear HB; have HB := n0_; clear n0_; (try clear hb); (try clear hb2); (try clear hk); (try clear hi)) | ((with_reducible refine gate_callee (f := 12) rfl ?_); refine goesL_ (some 19) rfl rfl Tryd.func12 (by kernel_rfl) rfl #[.string (⟨#[118, 49, 46, 48, 46, 48, 45, 48, 49]⟩ : ByteArray)] rfl (by (try simp only [List.map_toArray, List.map_cons, List.map_nil]); first | done | rfl | (simp only [List.length_drop, List.length_take]; rfl)) ?_; (with_reducible refine (version_May.calls k (⟨#[118, 49, 46, 48, 46, 48, 45, 48, 49]⟩ : ByteArray) false _ A4.out).mono ?_); rintro e w50 ⟨rfl, hb⟩; refine ⟨_, rfl, ?_⟩; have n0_ := Aside0.mk (below_step (by repeat (first | (with_reducible first | exact HB.out | apply below_alloc | apply pw_below_drewN | apply below_drew1) | exact HB.out)) hb); clear HB; have HB := n0_; clear n0_; (try clear hb); (try clear hb2); (try clear hk); (try clear hi)) | (go_at_call 12; (with_reducible refine (version_May.calls k (⟨#[118, 49, 46, 48, 46, 48, 45, 48, 49, 97]⟩ : ByteArray) false _ A10.out).mono ?_); rintro e w51 ⟨rfl, hb⟩; have n0_ := Aside0.mk (below_step (by repeat (first | (with_reducible first | exact HB.out | apply below_alloc | apply pw_below_drewN | apply below_drew1) | exact HB.out)) hb); clear HB; have HB := n0_; clear n0_; (try clear hb); (try clear hb2); (try clear hk); (try clear hi)))
   go_ret
   exact ⟨by first | rfl | (simp [errW_none, errW_some] <;> rfl) | (simp [*, errW_none, errW_some] <;> rfl), by repeat (first | (with_reducible first | exact HB.out | apply below_alloc | apply pw_below_drewN | apply below_drew1) | exact HB.out)⟩

/-! ### graftwoodlaw03_Few: function 17 -/
def graftwoodlaw03_Few.l0 : Nat → List ByteArray → Int → ByteArray → ByteArray → ByteArray → List ByteArray → Option (ByteArray × ByteArray × ByteArray × List ByteArray)
 | 0, _, _, _, _, _, _ => none
 | k + 1, x3, x4, x211000, x211001, x211002, x211003 => if x4 < (x211003.length : Int) then (if x4 < 8 then (if 0 ≤ x4 then ((graftwoodlaw01_Few.f (rdOf ByteArray.empty x211003 x4)).bind fun t216 => (if x3.length < 8796093022208 then (graftwoodlaw03_Few.l0 k (x3 ++ [t216]) (wrap64 (x4 + 1)) x211000 x211001 x211002 x211003) else (none))) else (none)) else (some (x211000, x211001, x211002, x3))) else (some (x211000, x211001, x211002, x3))
def graftwoodlaw03_Few.f (k : Nat) (a0_0 : ByteArray) (a0_1 : ByteArray) (a0_2 : ByteArray) (l0_3 : List ByteArray) : Option (ByteArray × ByteArray × ByteArray × List ByteArray) := (graftwoodlaw01_Few.f a0_0).bind fun t212 => ((graftwoodlaw01_Few.f a0_1).bind fun t213 => ((graftwoodlaw01_Few.f a0_2).bind fun t214 => (graftwoodlaw03_Few.l0 k ([] : List ByteArray) 0 t212 t213 t214 l0_3)))
theorem graftwoodlaw03_Few.mono_l : ∀ k, (∀ y0 y1 y2 y3 y4 y5, LeO (graftwoodlaw03_Few.l0 k y0 y1 y2 y3 y4 y5) (graftwoodlaw03_Few.l0 (k + 1) y0 y1 y2 y3 y4 y5))
 | 0 => fun _ _ _ _ _ _ r h => by simp [graftwoodlaw03_Few.l0] at h
 | k + 1 => by
  have ih0 := graftwoodlaw03_Few.mono_l k
  ·intro y0 y1 y2 y3 y4 y5
   unfold graftwoodlaw03_Few.l0
   repeat' first
   | (with_reducible exact ih0 _ _ _ _ _ _)
   | (with_reducible exact LeO.refl _)
   | (with_reducible exact LeO.none _)
   | (with_reducible refine LeO.ite ?_ ?_)
   | (with_reducible refine LeO.bind ?_ (fun _ => ?_))
   | exact ih0 _ _ _ _ _ _
   | exact LeO.none _
   | refine LeO.ite ?_ ?_
   | refine LeO.bind ?_ (fun _ => ?_)
theorem graftwoodlaw03_Few.mono : ∀ a0 a1 a2 a3 k, LeO (graftwoodlaw03_Few.f k a0 a1 a2 a3) (graftwoodlaw03_Few.f (k + 1) a0 a1 a2 a3) := by
 intro a0 a1 a2 a3 k
 have ih0 := graftwoodlaw03_Few.mono_l k
 unfold graftwoodlaw03_Few.f
 repeat' first
   | (with_reducible exact ih0 _ _ _ _ _ _)
   | (with_reducible exact LeO.refl _)
   | (with_reducible exact LeO.none _)
   | (with_reducible refine LeO.ite ?_ ?_)
   | (with_reducible refine LeO.bind ?_ (fun _ => ?_))
   | exact ih0 _ _ _ _ _ _
   | exact LeO.none _
   | refine LeO.ite ?_ ?_
   | refine LeO.bind ?_ (fun _ => ?_)
def graftwoodlaw03_Few.T1 : Bool × List (List Nat × List Nat) := (true, [([], []), ([0], [0]), ([1], [1]), ([], []), ([3], [3]), ([4, 2], [4]), ([], []), ([6], [6]), ([7, 5], [7]), ([0, 1, 2, 3, 4, 6, 7], []), ([9, 2, 8, 0, 1, 2, 3, 4, 6, 7], [2, 9]), ([0, 1, 2, 3, 4, 5, 6, 7, 9, 10], []), ([11, 5, 10, 0, 1, 2, 3, 4, 5, 6, 7, 9, 10], [5, 11]), ([0, 1, 2, 3, 4, 5, 6, 7, 8, 9, 10, 11, 12], []), ([13, 8, 12, 0, 1, 2, 3, 4, 5, 6, 7, 8, 9, 10, 11, 12], [8, 13])])
def graftwoodlaw03_Few.B1 : List Nat := [0, 1, 3, 0, 8, 31, 0, 64, 255, 223, 1023, 2047, 4095, 8191, 16383]
theorem graftwoodlaw03_Few.tab1 : rtab .any (opsOf Tryd.f17 1) = graftwoodlaw03_Few.T1 := by kernel_rfl
theorem graftwoodlaw03_Few.bits1 : waitsOk graftwoodlaw03_Few.T1.2 graftwoodlaw03_Few.B1 = true := by kernel_rfl
set_option maxHeartbeats 8000000 in
set_option maxRecDepth 100000 in
theorem graftwoodlaw03_Few.calls (k : Nat) (a0_0 : ByteArray) (a0_1 : ByteArray) (a0_2 : ByteArray) (A0_3 : Option Addr) (c0_3 : Nat) (l0_3 : List ByteArray) (r1 : ByteArray) (r2 : ByteArray) (r3 : ByteArray) (r4 : List ByteArray) (w : World) (hr0_3 : Kd.C Kd.string w A0_3 l0_3.length l0_3) (hc0_3 : l0_3.length ≤ c0_3) (h : graftwoodlaw03_Few.f k a0_0 a0_1 a0_2 l0_3 = some (r1, r2, r3, r4)) :
  Calls Tryd.prog 17 #[.agg #[.string a0_0, .string a0_1, .string a0_2, .slice A0_3 l0_3.length c0_3]] w fun e w' => ∃ v3_ : Value, e = .returned (.agg #[.string r1, .string r2, .string r3, v3_]) ∧ Kd.R Kd.string 9 w' w.heap.size (fun _ => True) v3_ r4 ∧ Below w.heap.size w w' := by
 have hu36 := Tryd.underlying36
 have HR0_3 := Aside0.mk hr0_3
 have HC0_3 := Aside0.mk hc0_3
 clear hr0_3 hc0_3
 have HB := Aside0.mk (Below.refl w.heap.size w)
 have H : ((graftwoodlaw01_Few.f a0_0).bind fun t212 => ((graftwoodlaw01_Few.f a0_1).bind fun t213 => ((graftwoodlaw01_Few.f a0_2).bind fun t214 => (graftwoodlaw03_Few.l0 k ([] : List ByteArray) 0 t212 t213 t214 l0_3)))) = some (r1, r2, r3, r4) := h
 clear h
 replace H := Option.bind_eq_some_iff.mp H
 obtain ⟨t212, A20, H⟩ := H
 replace H : ((graftwoodlaw01_Few.f a0_1).bind fun t213 => ((graftwoodlaw01_Few.f a0_2).bind fun t214 => (graftwoodlaw03_Few.l0 k ([] : List ByteArray) 0 t212 t213 t214 l0_3))) = some (r1, r2, r3, r4) := H
 have A2 := Aside0.mk A20
 clear A20
 replace H := Option.bind_eq_some_iff.mp H
 obtain ⟨t213, A30, H⟩ := H
 replace H : ((graftwoodlaw01_Few.f a0_2).bind fun t214 => (graftwoodlaw03_Few.l0 k ([] : List ByteArray) 0 t212 t213 t214 l0_3)) = some (r1, r2, r3, r4) := H
 have A3 := Aside0.mk A30
 clear A30
 replace H := Option.bind_eq_some_iff.mp H
 obtain ⟨t214, A40, H⟩ := H
 replace H : (graftwoodlaw03_Few.l0 k ([] : List ByteArray) 0 t212 t213 t214 l0_3) = some (r1, r2, r3, r4) := H
 have A4 := Aside0.mk A40
 clear A40
 have H' := Aside0.mk H
 clear H
 go_enter Tryd.func17, Tryd.ntmps17
 try go_wp2_with (first | ((with_reducible refine gate_dst (N := 1) rfl ?_); refine box_event ?hg (N := 1) ?hd (cs := #[.string a0_0, .string a0_1, .string a0_2, .slice A0_3 l0_3.length c0_3]) (t := 36) ?hr ?_; (case hd => rfl); (case hg => rfl); (case hr => first | (go_simp; done) | (go_simp; rfl)); intro gb210 hg w5 hbox hb; have n0_ := Aside0.mk (below_step (by repeat (first | (with_reducible first | exact HB.out | apply below_alloc | apply pw_below_drewN | apply below_drew1) | exact HB.out)) hb); have n1_ := Aside0.mk (hbox); have n2_ := Aside0.mk ((by rw [hg]; exact (below_size (by repeat (first | (with_reducible first | exact HB.out | apply below_alloc | apply pw_below_drewN | apply below_drew1) | exact HB.out))) : w.heap.size ≤ gb210)); have n3_ := Aside0.mk ((by rw [hg]; exact (below_size (by repeat (first | (with_reducible first | exact HB.out | apply below_alloc | apply pw_below_drewN | apply below_drew1) | exact HB.out))) : w.heap.size ≤ gb210)); clear HB; have HB := n0_; have BK210 := n1_; have GW210 := n2_; have GE210 := n3_; clear n0_ n1_ n2_ n3_; clear hb hbox hg) | ((with_reducible refine gate_dst (N := 2) rfl ?_); refine box_event ?hg (N := 2) ?hd (cs := #[.string (⟨#[]⟩ : ByteArray), .string (⟨#[]⟩ : ByteArray), .string (⟨#[]⟩ : ByteArray), .slice none 0 0]) (t := 36) ?hr ?_; (case hd => rfl); (case hg => rfl); (case hr => first | (go_simp; done) | (go_simp; rfl)); intro gb211 hg w6 hbox hb; have n0_ := Aside0.mk (blk_below (g := gb210) (o := .cells #[.string a0_0, .string a0_1, .string a0_2, .slice A0_3 l0_3.length c0_3] 36 (0, 0)) (by (with_reducible repeat (first | refine blk_drewN ?_ _ | refine blk_drew ?_ | refine blk_alloc ?_ _)); exact BK210.out) hb); have n1_ := Aside0.mk (below_step (by repeat (first | (with_reducible first | exact HB.out | apply below_alloc | apply pw_below_drewN | apply below_drew1 | refine below_set ?_ GE210.out) | exact HB.out)) hb); have n2_ := Aside0.mk (hbox); have n3_ := Aside0.mk ((by rw [hg]; exact (below_size (by repeat (first | (with_reducible first | exact HB.out | apply below_alloc | apply pw_below_drewN | apply below_drew1 | refine below_set ?_ GE210.out) | exact HB.out))) : w.heap.size ≤ gb211)); have n4_ := Aside0.mk ((by rw [hg]; exact (below_size (by repeat (first | (with_reducible first | exact HB.out | apply below_alloc | apply pw_below_drewN | apply below_drew1 | refine below_set ?_ GE210.out) | exact HB.out))) : w.heap.size ≤ gb211)); have n5_ := Aside0.mk ((by rw [hg]; exact Nat.ne_of_lt (blk_lt (g := gb210) (o := .cells #[.string a0_0, .string a0_1, .string a0_2, .slice A0_3 l0_3.length c0_3] 36 (0, 0)) (by (with_reducible repeat (first | refine blk_drewN ?_ _ | refine blk_drew ?_ | refine blk_alloc ?_ _)); exact BK210.out)) : gb210 ≠ gb211)); have n6_ := Aside0.mk ((by rw [hg]; exact Nat.ne_of_gt (blk_lt (g := gb210) (o := .cells #[.string a0_0, .string a0_1, .string a0_2, .slice A0_3 l0_3.length c0_3] 36 (0, 0)) (by (with_reducible repeat (first | refine blk_drewN ?_ _ | refine blk_drew ?_ | refine blk_alloc ?_ _)); exact BK210.out)) : gb211 ≠ gb210)); clear BK210; clear HB; have BK210 := n0_; have HB := n1_; have BK211 := n2_; have GW211 := n3_; have GE211 := n4_; have NB210_211 := n5_; have NB211_210 := n6_; clear n0_ n1_ n2_ n3_ n4_ n5_ n6_; clear hb hbox hg))
 have n0_ := Aside0.mk (blk_drew BK210.out)
 have n1_ := Aside0.mk (blk_drew BK211.out)
 have n2_ := Aside0.mk (below_drew1 HB.out)
 clear BK210
 clear BK211
 clear HB
 have BK210 := n0_
 have BK211 := n1_
 have HB := n2_
 clear n0_ n1_ n2_
 refine start_ (n := 15) (S := fun w' => w'.cell? ⟨gb210, 0, none⟩ = some (.string a0_0) ∧ w'.cell? ⟨gb210, 1, none⟩ = some (.string a0_1) ∧ w'.cell? ⟨gb210, 2, none⟩ = some (.string a0_2) ∧ w'.cell? ⟨gb210, 3, none⟩ = some (.slice A0_3 l0_3.length c0_3)) (ds := [10, 12, 14]) #[false, false, false, false, false, false, false, false, false, false, false, false, false, false, false] (by kernel_rfl) rfl rfl ⟨(blk_cell BK210.out 0).trans rfl, (blk_cell BK210.out 1).trans rfl, (blk_cell BK210.out 2).trans rfl, (blk_cell BK210.out 3).trans rfl⟩ (fun hHeld => ?_); refine with_tabW graftwoodlaw03_Few.tab1 graftwoodlaw03_Few.bits1 (fun HT_ HW_ => ?_)
 generalize w6.drew = w7 at BK210 BK211 HB hHeld ⊢
 refine pure_ (i := 0) (N := some 5) (v := ?_) (a' := ?_) #[true, false, false, false, false, false, false, false, false, false, false, false, false, false, false] rfl rfl (any_of HT_.out (by kernel_rfl)) (fun _ _ _ h => h) (Or.inl ⟨by rfl, ?_⟩) ?_ ?_
 rotate_left
 ·intro w'
  go_simp
  with_reducible rfl
 rotate_left
 ·simp only [Act.put, List.setIfInBounds_toArray, List.set_cons_zero, List.set_cons_succ, i64_w, i32_w]
  rfl
 refine pure_ (i := 3) (N := some 8) (v := ?_) (a' := ?_) #[true, false, false, true, false, false, false, false, false, false, false, false, false, false, false] rfl rfl (any_of HT_.out (by kernel_rfl)) (fun _ _ _ h => h) (Or.inl ⟨by rfl, ?_⟩) ?_ ?_
 rotate_left
 ·intro w'
  go_simp
  with_reducible rfl
 rotate_left
 ·simp only [Act.put, List.setIfInBounds_toArray, List.set_cons_zero, List.set_cons_succ, i64_w, i32_w]
  rfl
 refine pure_ (i := 6) (N := some 11) (v := ?_) (a' := ?_) #[true, false, false, true, false, false, true, false, false, false, false, false, false, false, false] rfl rfl (any_of HT_.out (by kernel_rfl)) (fun _ _ _ h => h) (Or.inl ⟨by rfl, ?_⟩) ?_ ?_
 rotate_left
 ·intro w'
  go_simp
  with_reducible rfl
 rotate_left
 ·simp only [Act.put, List.setIfInBounds_toArray, List.set_cons_zero, List.set_cons_succ, i64_w, i32_w]
  rfl
 refine take_ (i := 1) (N := some 6) (v := ?_) (a' := ?_) #[true, true, false, true, false, false, true, false, false, false, false, false, false, false, false] rfl rfl (take_ofW HT_.out HW_.out (by kernel_rfl)) (fun _ _ _ h => h) (Or.inl ⟨by rfl, ?_⟩) hHeld ?_ ?_
 rotate_left
 ·rintro w' ⟨s0, s1, s2, s3⟩
  go_simp
  with_reducible rfl
 rotate_left
 ·simp only [Act.put, List.setIfInBounds_toArray, List.set_cons_zero, List.set_cons_succ, i64_w, i32_w]
  rfl
 refine take_ (i := 4) (N := some 9) (v := ?_) (a' := ?_) #[true, true, false, true, true, false, true, false, false, false, false, false, false, false, false] rfl rfl (take_ofW HT_.out HW_.out (by kernel_rfl)) (fun _ _ _ h => h) (Or.inl ⟨by rfl, ?_⟩) hHeld ?_ ?_
 rotate_left
 ·rintro w' ⟨s0, s1, s2, s3⟩
  go_simp
  with_reducible rfl
 rotate_left
 ·simp only [Act.put, List.setIfInBounds_toArray, List.set_cons_zero, List.set_cons_succ, i64_w, i32_w]
  rfl
 refine take_ (i := 7) (N := some 12) (v := ?_) (a' := ?_) #[true, true, false, true, true, false, true, true, false, false, false, false, false, false, false] rfl rfl (take_ofW HT_.out HW_.out (by kernel_rfl)) (fun _ _ _ h => h) (Or.inl ⟨by rfl, ?_⟩) hHeld ?_ ?_
 rotate_left
 ·rintro w' ⟨s0, s1, s2, s3⟩
  go_simp
  with_reducible rfl
 rotate_left
 ·simp only [Act.put, List.setIfInBounds_toArray, List.set_cons_zero, List.set_cons_succ, i64_w, i32_w]
  rfl
 refine one_ (i := 2) (N := some 7) #[true, true, true, true, true, false, true, true, false, false, false, false, false, false, false] rfl rfl (one_of HT_.out (by kernel_rfl)) (by decide) (fun K hK => ?_)
 refine goes_ Tryd.func10 (by kernel_rfl) rfl #[.string a0_0] (by rfl) rfl rfl (by (try simp only [List.map_toArray, List.map_cons, List.map_nil]); first | done | rfl | (simp only [List.length_drop, List.length_take]; rfl)) ?_
 with_reducible refine (graftwoodlaw01_Few.calls a0_0 t212 _ A2.out).mono ?_
 rintro e w' ⟨rfl, ⟨nd, rfl⟩⟩
 refine ⟨_, rfl, ?_⟩
 refine hK.out _ _ ⟨(blk_cell BK210.out 0).trans rfl, (blk_cell BK210.out 1).trans rfl, (blk_cell BK210.out 2).trans rfl, (blk_cell BK210.out 3).trans rfl⟩ (fun hHeld => ?_)
 clear hK K
 refine norm_ (a' := ?_) ?_ ?_
 rotate_left
 ·show Act.put _ (some 7) _ = _
  simp only [Act.put, List.setIfInBounds_toArray, List.set_cons_zero, List.set_cons_succ, i64_w, i32_w]
  rfl
 refine pure_ (i := 9) (N := some 14) (v := ?_) (a' := ?_) #[true, true, true, true, true, false, true, true, false, true, false, false, false, false, false] rfl rfl (any_of HT_.out (by kernel_rfl)) (fun _ _ _ h => h) (Or.inl ⟨by rfl, ?_⟩) ?_ ?_
 rotate_left
 ·intro w'
  go_simp
  with_reducible rfl
 rotate_left
 ·simp only [Act.put, List.setIfInBounds_toArray, List.set_cons_zero, List.set_cons_succ, i64_w, i32_w]
  rfl
 refine one_ (i := 5) (N := some 10) #[true, true, true, true, true, true, true, true, false, true, false, false, false, false, false] rfl rfl (one_of HT_.out (by kernel_rfl)) (by decide) (fun K hK => ?_)
 refine goes_ Tryd.func10 (by kernel_rfl) rfl #[.string a0_1] (by rfl) rfl rfl (by (try simp only [List.map_toArray, List.map_cons, List.map_nil]); first | done | rfl | (simp only [List.length_drop, List.length_take]; rfl)) ?_
 with_reducible refine (graftwoodlaw01_Few.calls a0_1 t213 _ A3.out).mono ?_
 rintro e w' ⟨rfl, ⟨nd, rfl⟩⟩
 refine ⟨_, rfl, ?_⟩
 refine hK.out _ _ ⟨(blk_cell BK210.out 0).trans rfl, (blk_cell BK210.out 1).trans rfl, (blk_cell BK210.out 2).trans rfl, (blk_cell BK210.out 3).trans rfl⟩ (fun hHeld => ?_)
 clear hK K
 refine norm_ (a' := ?_) ?_ ?_
 rotate_left
 ·show Act.put _ (some 10) _ = _
  simp only [Act.put, List.setIfInBounds_toArray, List.set_cons_zero, List.set_cons_succ, i64_w, i32_w]
  rfl
 refine one_ (i := 8) (N := some 13) #[true, true, true, true, true, true, true, true, true, true, false, false, false, false, false] rfl rfl (one_of HT_.out (by kernel_rfl)) (by decide) (fun K hK => ?_)
 refine goes_ Tryd.func10 (by kernel_rfl) rfl #[.string a0_2] (by rfl) rfl rfl (by (try simp only [List.map_toArray, List.map_cons, List.map_nil]); first | done | rfl | (simp only [List.length_drop, List.length_take]; rfl)) ?_
 with_reducible refine (graftwoodlaw01_Few.calls a0_2 t214 _ A4.out).mono ?_
 rintro e w' ⟨rfl, ⟨nd, rfl⟩⟩
 refine ⟨_, rfl, ?_⟩
 refine hK.out _ _ ⟨(blk_cell BK210.out 0).trans rfl, (blk_cell BK210.out 1).trans rfl, (blk_cell BK210.out 2).trans rfl, (blk_cell BK210.out 3).trans rfl⟩ (fun hHeld => ?_)
 clear hK K
 refine norm_ (a' := ?_) ?_ ?_
 rotate_left
 ·show Act.put _ (some 13) _ = _
  simp only [Act.put, List.setIfInBounds_toArray, List.set_cons_zero, List.set_cons_succ, i64_w, i32_w]
  rfl
 refine last_ (i := 10) (N := none) #[true, true, true, true, true, true, true, true, true, true, true, false, false, false, false] rfl rfl (one_of HT_.out (by kernel_rfl)) (by decide) (fun K hK => ?_)
 have hs8 : w7.cell? ⟨gb210, 0, none⟩ = some (.string a0_0) := (blk_cell BK210.out 0).trans rfl
 have hfs8 := blk_frozen BK210.out 0
 have hns8_1 := NB211_210.out
 have hms8_1 := NB210_211.out
 refine skip_ (w1 := ?_) (by rfl) rfl ?_ ?_
 rotate_left
 ·go_simp
  rfl
 refine hK.out _ _ ?_
 clear hK K
 refine pure_ (i := 11) (N := some 15) (v := ?_) (a' := ?_) #[true, true, true, true, true, true, true, true, true, true, true, true, false, false, false] rfl rfl (any_of HT_.out (by kernel_rfl)) (fun _ _ _ h => h) (Or.inl ⟨by rfl, ?_⟩) ?_ ?_
 rotate_left
 ·intro w'
  go_simp
  with_reducible rfl
 rotate_left
 ·simp only [Act.put, List.setIfInBounds_toArray, List.set_cons_zero, List.set_cons_succ, i64_w, i32_w]
  rfl
 refine last_ (i := 12) (N := none) #[true, true, true, true, true, true, true, true, true, true, true, true, true, false, false] rfl rfl (one_of HT_.out (by kernel_rfl)) (by decide) (fun K hK => ?_)
 have hs9 : w7.cell? ⟨gb210, 1, none⟩ = some (.string a0_1) := (blk_cell BK210.out 1).trans rfl
 have hfs9 := blk_frozen BK210.out 1
 have hns9_1 := NB211_210.out
 have hms9_1 := NB210_211.out
 refine skip_ (w1 := ?_) (by rfl) rfl ?_ ?_
 rotate_left
 ·go_simp
  rfl
 refine hK.out _ _ ?_
 clear hK K
 refine pure_ (i := 13) (N := some 16) (v := ?_) (a' := ?_) #[true, true, true, true, true, true, true, true, true, true, true, true, true, true, false] rfl rfl (any_of HT_.out (by kernel_rfl)) (fun _ _ _ h => h) (Or.inl ⟨by rfl, ?_⟩) ?_ ?_
 rotate_left
 ·intro w'
  go_simp
  with_reducible rfl
 rotate_left
 ·simp only [Act.put, List.setIfInBounds_toArray, List.set_cons_zero, List.set_cons_succ, i64_w, i32_w]
  rfl
 refine last_ (i := 14) (N := none) #[true, true, true, true, true, true, true, true, true, true, true, true, true, true, true] rfl rfl (one_of HT_.out (by kernel_rfl)) (by decide) (fun K hK => ?_)
 have hs10 : w7.cell? ⟨gb210, 2, none⟩ = some (.string a0_2) := (blk_cell BK210.out 2).trans rfl
 have hfs10 := blk_frozen BK210.out 2
 have hns10_1 := NB211_210.out
 have hms10_1 := NB210_211.out
 refine skip_ (w1 := ?_) (by rfl) rfl ?_ ?_
 rotate_left
 ·go_simp
  rfl
 refine hK.out _ _ ?_
 clear hK K
 refine done_ (done_of HT_.out (by kernel_rfl)) ?_
 try go_wp2
 go_loopg [3, 4] k (fun kq v3 v4 w' => ∃ (x3_1 : List ByteArray) (x4_1 : Int), v4 = .int .i64 x4_1 ∧ Aside0 (graftwoodlaw03_Few.l0 kq x3_1 x4_1 t212 t213 t214 l0_3 = some (r1, r2, r3, r4)) ∧ Aside0 (kq ≤ k) ∧ Aside0 (Kd.R Kd.string 9 w' w.heap.size (fun _ => True) v3 x3_1) ∧ Aside0 (w'.heap[gb210]? = some (.cells #[.string t212, .string t213, .string t214, (.slice A0_3 l0_3.length c0_3)] 36 (0, 0))) ∧ Aside0 (w'.heap[gb211]? = some (.cells #[.string (⟨#[]⟩ : ByteArray), .string (⟨#[]⟩ : ByteArray), .string (⟨#[]⟩ : ByteArray), (.slice none 0 0)] 36 (0, 0))) ∧ Aside0 (Below w.heap.size w w'))
 case atStart => exact ⟨(([] : List ByteArray)), (0), (by first | rfl | (simp; done) | (simp [*]; done)), H', ⟨Nat.le_refl _⟩, ⟨by first | exact Kd.R_nil _ _ _ _ _ | exact Kd.N_nil _ _ _ _ _ | exact Kd.V_nil _ _ _ _ _ | exact Kd.Q_nil _ _ _ _ _ | exact Kd.S_nil _ _ _ _ _⟩, ⟨by (with_reducible repeat (first | refine blk_drewN ?_ _ | refine blk_drew ?_ | refine blk_alloc ?_ _)); refine blk_put (cs := #[.string t212, .string t213, .string a0_2, .slice A0_3 l0_3.length c0_3]) ?_ 2 _ rfl; (with_reducible repeat (first | refine blk_drewN ?_ _ | refine blk_drew ?_ | refine blk_alloc ?_ _)); refine blk_put (cs := #[.string t212, .string a0_1, .string a0_2, .slice A0_3 l0_3.length c0_3]) ?_ 1 _ rfl; (with_reducible repeat (first | refine blk_drewN ?_ _ | refine blk_drew ?_ | refine blk_alloc ?_ _)); refine blk_put (cs := #[.string a0_0, .string a0_1, .string a0_2, .slice A0_3 l0_3.length c0_3]) ?_ 0 _ rfl; (with_reducible repeat (first | refine blk_drewN ?_ _ | refine blk_drew ?_ | refine blk_alloc ?_ _)); exact BK210.out⟩, ⟨by (with_reducible repeat (first | refine blk_drewN ?_ _ | refine blk_drew ?_ | refine blk_alloc ?_ _)); refine blk_far ?_ NB211_210.out _; (with_reducible repeat (first | refine blk_drewN ?_ _ | refine blk_drew ?_ | refine blk_alloc ?_ _)); refine blk_far ?_ NB211_210.out _; (with_reducible repeat (first | refine blk_drewN ?_ _ | refine blk_drew ?_ | refine blk_alloc ?_ _)); refine blk_far ?_ NB211_210.out _; (with_reducible repeat (first | refine blk_drewN ?_ _ | refine blk_drew ?_ | refine blk_alloc ?_ _)); exact BK211.out⟩, ⟨by repeat (first | (with_reducible first | exact HB.out | apply below_alloc | apply pw_below_drewN | apply below_drew1 | refine below_set ?_ GE210.out | refine below_set ?_ GE211.out) | exact HB.out)⟩⟩
 case round =>
  clear H'
  try clear c1
  try clear p2
  try clear c10
  obtain ⟨x3_1, x4_1, rfl, HA, HK1, HO_3, BK210, BK211, HB⟩ := hrel
  cases gk with
  | zero => exact absurd HA.out (by simp [graftwoodlaw03_Few.l0])
  | succ k1 =>
   have H := HA.out
   clear HA
   simp only [graftwoodlaw03_Few.l0] at H
   by_cases c11 : x4_1 < (l0_3.length : Int)
   ·rw [if_pos c11] at H
    have c11b0 : decide (x4_1 < (l0_3.length : Int)) = true := decide_eq_true c11
    clear c11
    by_cases c12 : x4_1 < 8
    ·rw [if_pos c12] at H
     have c12b0 : decide (x4_1 < 8) = true := decide_eq_true c12
     clear c12
     by_cases c13 : 0 ≤ x4_1
     ·rw [if_pos c13] at H
      have c13b0 : decide (0 ≤ x4_1) = true := decide_eq_true c13
      clear c13
      replace H := Option.bind_eq_some_iff.mp H
      obtain ⟨t216, A140, H⟩ := H
      replace H : (if x3_1.length < 8796093022208 then (graftwoodlaw03_Few.l0 k1 (x3_1 ++ [t216]) (wrap64 (x4_1 + 1)) t212 t213 t214 l0_3) else (none)) = some (r1, r2, r3, r4) := H
      have A14 := Aside0.mk A140
      clear A140
      by_cases c15 : x3_1.length < 8796093022208
      ·rw [if_pos c15] at H
       have LMc15 := Aside0.mk c15
       clear c15
       obtain ⟨y217, hy217⟩ : ∃ y_ : List ByteArray, y_ = (x3_1 ++ [t216]) := ⟨_, rfl⟩
       replace H : (graftwoodlaw03_Few.l0 k1 y217 (wrap64 (x4_1 + 1)) t212 t213 t214 l0_3) = some (r1, r2, r3, r4) := by first | (rw [hy217]; with_reducible exact H) | (have H2_ := (Option.bind_some _ _).symm.trans H; rw [hy217]; with_reducible exact H2_) | (have H2_ := (Option.bind_some _ _).symm.trans H; with_reducible exact H2_) | with_reducible exact H | (rw [hy217]; exact H) | exact H
       have Ny217 := Aside0.mk hy217
       clear hy217
       have H' := Aside0.mk H
       clear H
       have hnb16 := NB210_211.out
       have hnc16 := NB211_210.out
       have hcz17_0 : wr.cell? ⟨gb210, 0, none⟩ = some (.string t212) := (blk_cell BK210.out 0).trans rfl
       have hcz17_1 : wr.cell? ⟨gb210, 1, none⟩ = some (.string t213) := (blk_cell BK210.out 1).trans rfl
       have hcz17_2 : wr.cell? ⟨gb210, 2, none⟩ = some (.string t214) := (blk_cell BK210.out 2).trans rfl
       have hcz17_3 : wr.cell? ⟨gb210, 3, none⟩ = some (.slice A0_3 l0_3.length c0_3) := (blk_cell BK210.out 3).trans rfl
       have hfz17_0 := blk_frozen BK210.out 0
       have hfz17_1 := blk_frozen BK210.out 1
       have hfz17_2 := blk_frozen BK210.out 2
       have hfz17_3 := blk_frozen BK210.out 3
       have p215 : 0 ≤ (x4_1 : Int) := of_decide_eq_true (by first | (with_reducible assumption) | assumption)
       have q215 : x4_1 < (l0_3.length : Int) := of_decide_eq_true (by first | (with_reducible assumption) | assumption)
       obtain ⟨ad215, e215, hx215_0⟩ := Kd.at_string HR0_3.out x4_1 p215 q215
       cases e215
       replace hx215_0 := (HB.out.cell (World.block_lt_of_cell? w _ hx215_0)).trans hx215_0
       replace p215 := eq_true p215
       replace q215 := eq_true q215
       go_wp2_with (first | ((with_reducible refine gate_callee (f := 10) rfl ?_); refine goesL_ (some 34) rfl rfl Tryd.func10 (by kernel_rfl) rfl #[.string (rdOf ByteArray.empty l0_3 x4_1)] rfl (by (try simp only [List.map_toArray, List.map_cons, List.map_nil]); first | done | rfl | (simp only [List.length_drop, List.length_take]; rfl)) ?_; (with_reducible refine (graftwoodlaw01_Few.calls (rdOf ByteArray.empty l0_3 x4_1) t216 _ A14.out).mono ?_); rintro e w' ⟨rfl, ⟨nd, rfl⟩⟩; refine ⟨_, rfl, ?_⟩) | ((with_reducible refine gate_builtin (b := .append) (xs := #[.tmp 28, .tmp 35]) rfl ?_); at_builtin; refine Kd.R_append Kd.string (w0 := w) w.heap.size rfl (.tmp 28) (.tmp 35) 29 9 (.string ⟨#[]⟩) 16 rfl Tryd.underlying29 info9 rfl (by decide) (by omega) u3 x3_1 t216 [.string t216] (fun _ => True) (fun _ => False) rfl rfl ?aP (fun _ hk => hk.elim) ?aF ?aO ?aB ?aS ?aL ?_; (case aP => exact rfl); (case aB => exact (by repeat (first | (with_reducible first | exact HB.out | apply below_alloc | apply pw_below_drewN | apply below_drew1 | refine below_set ?_ GE210.out | refine below_set ?_ GE211.out) | exact HB.out))); (case aF => exact (fun _ _ => trivial)); (case aO => exact (by (with_reducible repeat (first | apply Kd.R_alloc | apply Kd.R_drewN | apply Kd.R_drew)); exact HO_3.out)); (case aS => exact (below_size (by repeat (first | (with_reducible first | exact HB.out | apply below_alloc | apply pw_below_drewN | apply below_drew1 | refine below_set ?_ GE210.out | refine below_set ?_ GE211.out) | exact HB.out)))); (case aL => have := LMc15.out; omega); intro v218 w18 ho hb hg hat; rw [← Ny217.out] at ho; have n0_ := Aside0.mk (blk_grown (g := gb210) (o := .cells #[.string t212, .string t213, .string t214, .slice (some ad215) l0_3.length c0_3] 36 (0, 0)) (by (with_reducible repeat (first | refine blk_drewN ?_ _ | refine blk_drew ?_ | refine blk_alloc ?_ _)); exact BK210.out) hg (Kd.R_ne HO_3.out BK210.out (by decide))); have n1_ := Aside0.mk (blk_grown (g := gb211) (o := .cells #[.string (⟨#[]⟩ : ByteArray), .string (⟨#[]⟩ : ByteArray), .string (⟨#[]⟩ : ByteArray), .slice none 0 0] 36 (0, 0)) (by (with_reducible repeat (first | refine blk_drewN ?_ _ | refine blk_drew ?_ | refine blk_alloc ?_ _)); exact BK211.out) hg (Kd.R_ne HO_3.out BK211.out (by decide))); have n2_ := Aside0.mk (hb); have n3_ := Aside0.mk (ho); clear BK210; clear BK211; clear HB; clear HO_3; have BK210 := n0_; have BK211 := n1_; have HB := n2_; have HO219 := n3_; clear n0_ n1_ n2_ n3_; clear ho hb hg hat))
       go_roundg k1
       case measure => have := HK1.out; omega
       case rel => exact ⟨(y217), (wrap64 (x4_1 + 1)), (by first | rfl | (simp; done) | (simp [*]; done)), H', ⟨by have := HK1.out; omega⟩, ⟨by (with_reducible repeat (first | apply Kd.R_alloc | apply Kd.R_drewN | apply Kd.R_drew)); exact HO219.out⟩, ⟨by (with_reducible repeat (first | refine blk_drewN ?_ _ | refine blk_drew ?_ | refine blk_alloc ?_ _)); exact BK210.out⟩, ⟨by (with_reducible repeat (first | refine blk_drewN ?_ _ | refine blk_drew ?_ | refine blk_alloc ?_ _)); exact BK211.out⟩, ⟨by repeat (first | (with_reducible first | exact HB.out | apply below_alloc | apply pw_below_drewN | apply below_drew1 | refine below_set ?_ GE210.out | refine below_set ?_ GE211.out) | exact HB.out)⟩⟩
      ·rw [if_neg c15] at H
       exact absurd H (by simp)
     ·rw [if_neg c13] at H
      exact absurd H (by simp)
    ·rw [if_neg c12] at H
     have c12b0 : decide (x4_1 < 8) = false := decide_eq_false c12
     clear c12
     simp only [Option.some.injEq, Prod.mk.injEq] at H
     obtain ⟨rfl, rfl, rfl, rfl⟩ := H
     have hnb19 := NB210_211.out
     have hnc19 := NB211_210.out
     have hcz20_0 : wr.cell? ⟨gb210, 0, none⟩ = some (.string t212) := (blk_cell BK210.out 0).trans rfl
     have hcz20_1 : wr.cell? ⟨gb210, 1, none⟩ = some (.string t213) := (blk_cell BK210.out 1).trans rfl
     have hcz20_2 : wr.cell? ⟨gb210, 2, none⟩ = some (.string t214) := (blk_cell BK210.out 2).trans rfl
     have hcz20_3 : wr.cell? ⟨gb210, 3, none⟩ = some (.slice A0_3 l0_3.length c0_3) := (blk_cell BK210.out 3).trans rfl
     have hfz20_0 := blk_frozen BK210.out 0
     have hfz20_1 := blk_frozen BK210.out 1
     have hfz20_2 := blk_frozen BK210.out 2
     have hfz20_3 := blk_frozen BK210.out 3
     obtain ⟨Ao21, co21, eo21⟩ := Kd.R_slice HO_3.out
     subst eo21
     have hcz22_0 : wr.cell? ⟨gb211, 0, none⟩ = some (.string (⟨#[]⟩ : ByteArray)) := (blk_cell BK211.out 0).trans rfl
     have hcz22_1 : wr.cell? ⟨gb211, 1, none⟩ = some (.string (⟨#[]⟩ : ByteArray)) := (blk_cell BK211.out 1).trans rfl
     have hcz22_2 : wr.cell? ⟨gb211, 2, none⟩ = some (.string (⟨#[]⟩ : ByteArray)) := (blk_cell BK211.out 2).trans rfl
     have hcz22_3 : wr.cell? ⟨gb211, 3, none⟩ = some (.slice none 0 0) := (blk_cell BK211.out 3).trans rfl
     have hfz22_0 := blk_frozen BK211.out 0
     have hfz22_1 := blk_frozen BK211.out 1
     have hfz22_2 := blk_frozen BK211.out 2
     have hfz22_3 := blk_frozen BK211.out 3
     go_wp2
     refine bodyPost_ret (results_cell_row rfl _ _ gb211 36 #[.string t212, .string t213, .string t214, .slice Ao21 x3_1.length co21] (0, 0) _ rfl (by (with_reducible repeat (first | refine blk_drewN ?_ _ | refine blk_drew ?_ | refine blk_alloc ?_ _)); refine blk_put (cs := #[.string t212, .string t213, .string t214, .slice none 0 0]) ?_ 3 _ rfl; (with_reducible repeat (first | refine blk_drewN ?_ _ | refine blk_drew ?_ | refine blk_alloc ?_ _)); refine blk_put (cs := #[.string t212, .string t213, .string (⟨#[]⟩ : ByteArray), .slice none 0 0]) ?_ 2 _ rfl; (with_reducible repeat (first | refine blk_drewN ?_ _ | refine blk_drew ?_ | refine blk_alloc ?_ _)); refine blk_put (cs := #[.string t212, .string (⟨#[]⟩ : ByteArray), .string (⟨#[]⟩ : ByteArray), .slice none 0 0]) ?_ 1 _ rfl; (with_reducible repeat (first | refine blk_drewN ?_ _ | refine blk_drew ?_ | refine blk_alloc ?_ _)); refine blk_put (cs := #[.string (⟨#[]⟩ : ByteArray), .string (⟨#[]⟩ : ByteArray), .string (⟨#[]⟩ : ByteArray), .slice none 0 0]) ?_ 0 _ rfl; (with_reducible repeat (first | refine blk_drewN ?_ _ | refine blk_drew ?_ | refine blk_alloc ?_ _)); refine blk_far ?_ NB211_210.out _; (with_reducible repeat (first | refine blk_drewN ?_ _ | refine blk_drew ?_ | refine blk_alloc ?_ _)); exact BK211.out) Tryd.underlying36 rfl (by kernel_rfl)) rfl ?_
     exact ⟨_, by first | rfl | (simp [errW_none, errW_some] <;> rfl) | (simp [*, errW_none, errW_some] <;> rfl), by (with_reducible repeat (first | apply Kd.R_alloc | apply Kd.R_drewN | apply Kd.R_drew)); exact Kd.R_mono (Kd.R_far (p := ⟨gb211, 3, none⟩) (Kd.R_far (p := ⟨gb211, 2, none⟩) (Kd.R_far (p := ⟨gb211, 1, none⟩) (Kd.R_far (p := ⟨gb211, 0, none⟩) (Kd.R_far (p := ⟨gb210, 3, none⟩) (Kd.R_types (Kd.R_types HO_3.out BK210.out (by decide)) BK211.out (by decide)) (fun _ hk => hk.1.2) (.slice Ao21 x3_1.length co21)) (fun _ hk => hk.2) (.string t212)) (fun _ hk => hk.2) (.string t213)) (fun _ hk => hk.2) (.string t214)) (fun _ hk => hk.2) (.slice Ao21 x3_1.length co21)) (fun _ hk => trivial), by repeat (first | (with_reducible first | exact HB.out | apply below_alloc | apply pw_below_drewN | apply below_drew1 | refine below_set ?_ GE210.out | refine below_set ?_ GE211.out) | exact HB.out)⟩
   ·rw [if_neg c11] at H
    have c11b0 : decide (x4_1 < (l0_3.length : Int)) = false := decide_eq_false c11
    clear c11
    simp only [Option.some.injEq, Prod.mk.injEq] at H
    obtain ⟨rfl, rfl, rfl, rfl⟩ := H
    have hnb23 := NB210_211.out
    have hnc23 := NB211_210.out
    have hcz24_0 : wr.cell? ⟨gb210, 0, none⟩ = some (.string t212) := (blk_cell BK210.out 0).trans rfl
    have hcz24_1 : wr.cell? ⟨gb210, 1, none⟩ = some (.string t213) := (blk_cell BK210.out 1).trans rfl
    have hcz24_2 : wr.cell? ⟨gb210, 2, none⟩ = some (.string t214) := (blk_cell BK210.out 2).trans rfl
    have hcz24_3 : wr.cell? ⟨gb210, 3, none⟩ = some (.slice A0_3 l0_3.length c0_3) := (blk_cell BK210.out 3).trans rfl
    have hfz24_0 := blk_frozen BK210.out 0
    have hfz24_1 := blk_frozen BK210.out 1
    have hfz24_2 := blk_frozen BK210.out 2
    have hfz24_3 := blk_frozen BK210.out 3
    obtain ⟨Ao25, co25, eo25⟩ := Kd.R_slice HO_3.out
    subst eo25
    have hcz26_0 : wr.cell? ⟨gb211, 0, none⟩ = some (.string (⟨#[]⟩ : ByteArray)) := (blk_cell BK211.out 0).trans rfl
    have hcz26_1 : wr.cell? ⟨gb211, 1, none⟩ = some (.string (⟨#[]⟩ : ByteArray)) := (blk_cell BK211.out 1).trans rfl
    have hcz26_2 : wr.cell? ⟨gb211, 2, none⟩ = some (.string (⟨#[]⟩ : ByteArray)) := (blk_cell BK211.out 2).trans rfl
    have hcz26_3 : wr.cell? ⟨gb211, 3, none⟩ = some (.slice none 0 0) := (blk_cell BK211.out 3).trans rfl
    have hfz26_0 := blk_frozen BK211.out 0
    have hfz26_1 := blk_frozen BK211.out 1
    have hfz26_2 := blk_frozen BK211.out 2
    have hfz26_3 := blk_frozen BK211.out 3
    go_wp2
    refine bodyPost_ret (results_cell_row rfl _ _ gb211 36 #[.string t212, .string t213, .string t214, .slice Ao25 x3_1.length co25] (0, 0) _ rfl (by (with_reducible repeat (first | refine blk_drewN ?_ _ | refine blk_drew ?_ | refine blk_alloc ?_ _)); refine blk_put (cs := #[.string t212, .string t213, .string t214, .slice none 0 0]) ?_ 3 _ rfl; (with_reducible repeat (first | refine blk_drewN ?_ _ | refine blk_drew ?_ | refine blk_alloc ?_ _)); refine blk_put (cs := #[.string t212, .string t213, .string (⟨#[]⟩ : ByteArray), .slice none 0 0]) ?_ 2 _ rfl; (with_reducible repeat (first | refine blk_drewN ?_ _ | refine blk_drew ?_ | refine blk_alloc ?_ _)); refine blk_put (cs := #[.string t212, .string (⟨#[]⟩ : ByteArray), .string (⟨#[]⟩ : ByteArray), .slice none 0 0]) ?_ 1 _ rfl; (with_reducible repeat (first | refine blk_drewN ?_ _ | refine blk_drew ?_ | refine blk_alloc ?_ _)); refine blk_put (cs := #[.string (⟨#[]⟩ : ByteArray), .string (⟨#[]⟩ : ByteArray), .string (⟨#[]⟩ : ByteArray), .slice none 0 0]) ?_ 0 _ rfl; (with_reducible repeat (first | refine blk_drewN ?_ _ | refine blk_drew ?_ | refine blk_alloc ?_ _)); refine blk_far ?_ NB211_210.out _; (with_reducible repeat (first | refine blk_drewN ?_ _ | refine blk_drew ?_ | refine blk_alloc ?_ _)); exact BK211.out) Tryd.underlying36 rfl (by kernel_rfl)) rfl ?_
    exact ⟨_, by first | rfl | (simp [errW_none, errW_some] <;> rfl) | (simp [*, errW_none, errW_some] <;> rfl), by (with_reducible repeat (first | apply Kd.R_alloc | apply Kd.R_drewN | apply Kd.R_drew)); exact Kd.R_mono (Kd.R_far (p := ⟨gb211, 3, none⟩) (Kd.R_far (p := ⟨gb211, 2, none⟩) (Kd.R_far (p := ⟨gb211, 1, none⟩) (Kd.R_far (p := ⟨gb211, 0, none⟩) (Kd.R_far (p := ⟨gb210, 3, none⟩) (Kd.R_types (Kd.R_types HO_3.out BK210.out (by decide)) BK211.out (by decide)) (fun _ hk => hk.1.2) (.slice Ao25 x3_1.length co25)) (fun _ hk => hk.2) (.string t212)) (fun _ hk => hk.2) (.string t213)) (fun _ hk => hk.2) (.string t214)) (fun _ hk => hk.2) (.slice Ao25 x3_1.length co25)) (fun _ hk => trivial), by repeat (first | (with_reducible first | exact HB.out | apply below_alloc | apply pw_below_drewN | apply below_drew1 | refine below_set ?_ GE210.out | refine below_set ?_ GE211.out) | exact HB.out)⟩

end Go.Proofs.YtjadpeahoaogcaaDoor.P
