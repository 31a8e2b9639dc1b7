-- Written by this project's own program (wip/tools/hp.py), driving the kit's print; hand texts among it. Not trusted: Lean checks it.
-- half the indentation
import Derived.Test.YtomjppafgalaoaaDoorThin
import Derived.Test.YtomjppafgalaoaaDoorP0
import Derived.Test.YtomjppafgalaoaaDoorP2
import Derived.Test.YtomjppafgalaoaaDoorP17
import Derived.Test.YtomjppafgalaoaaDoorP18
namespace Go.Proofs.YtomjppafgalaoaaDoor.P
open Go.RowKit Go.Proofs.YtomjppafgalaoaaDoorW.PrintWords Go.Proofs.YtomjppafgalaoaaDoorW.PrintLast Go.Proofs.YtomjppafgalaoaaDoorW.PrintMore
attribute [local go_sem] max2_int min2_int max_two min_two max_three min_three max_four min_four   -- for this text's walks alone
set_option linter.unusedVariables false
set_option linter.unusedSimpArgs false

attribute [local go_sem high] eqA76
/-! ### version_Cmp: function 42 -/
mutual
def version_Cmp.j0 : Nat → Bool → ByteArray → ByteArray → ByteArray → List ByteArray → ByteArray → ByteArray → ByteArray → List ByteArray → Option (Int × Int)
 | 0, _, _, _, _, _, _, _, _, _ => none
 | k + 1, x29, aM, aN, aO, aJ, aP, aQ, aR, aK => if x29 = true then (some (0, 1)) else (if (!(aM.toList == aP.toList) || (!(aN.toList == aQ.toList) || (!(aO.toList == aR.toList)))) = true then ((version_numbers.f k aM aP).bind fun a6 => ((version_numbers.f k aN aQ).bind fun aW => ((version_numbers.f k aO aR).bind fun aV => ((cmp_Or_int.f k (([a6, aW, aV] : List Int))).bind fun aX => (some (aX, 0)))))) else (if (aJ.length : Int) = 0 then (version_Cmp.j1 k true aM aN aO aJ aP aQ aR aK) else (version_Cmp.j1 k ((aK.length : Int) == 0) aM aN aO aJ aP aQ aR aK)))
def version_Cmp.j1 : Nat → Bool → ByteArray → ByteArray → ByteArray → List ByteArray → ByteArray → ByteArray → ByteArray → List ByteArray → Option (Int × Int)
 | 0, _, _, _, _, _, _, _, _, _ => none
 | k + 1, x73, aM, aN, aO, aJ, aP, aQ, aR, aK => if x73 = true then ((cmp_Compare_int.f (aK.length : Int) (aJ.length : Int)).bind fun bX => (some (bX, 0))) else (version_Cmp.l0 k (mn (aJ.length : Int) (aK.length : Int)) 0 aM aN aO aJ aP aQ aR aK)
def version_Cmp.l0 : Nat → Int → Int → ByteArray → ByteArray → ByteArray → List ByteArray → ByteArray → ByteArray → ByteArray → List ByteArray → Option (Int × Int)
 | 0, _, _, _, _, _, _, _, _, _, _ => none
 | k + 1, x87, x88, aM, aN, aO, aJ, aP, aQ, aR, aK => if x88 < x87 then (if 0 ≤ x88 then (if x88 < (aJ.length : Int) then (if x88 < (aK.length : Int) then ((version_words.f k (rdOf ByteArray.empty aJ x88) (rdOf ByteArray.empty aK x88)).bind fun a7 => (if a7 = 0 then (version_Cmp.l0 k x87 (wrap64 (x88 + 1)) aM aN aO aJ aP aQ aR aK) else (some (a7, 0)))) else (none)) else (none)) else (none)) else ((cmp_Compare_int.f (aJ.length : Int) (aK.length : Int)).bind fun b2 => (some (b2, 0)))
end
def version_Cmp.f (k : Nat) (a0 : ByteArray) (a1 : ByteArray) : Option (Int × Int) := (version_Split.f k a0).bind fun bt207 => ((version_Split.f k a1).bind fun bt215 => (if bt207.2.2.2.2 = 0 then (version_Cmp.j0 k (bt215.2.2.2.2 != 0) bt207.1 bt207.2.1 bt207.2.2.1 bt207.2.2.2.1 bt215.1 bt215.2.1 bt215.2.2.1 bt215.2.2.2.1) else (version_Cmp.j0 k true bt207.1 bt207.2.1 bt207.2.2.1 bt207.2.2.2.1 bt215.1 bt215.2.1 bt215.2.2.1 bt215.2.2.2.1)))
theorem version_Cmp.mono_l : ∀ k, (∀ y0 y1 y2 y3 y4 y5 y6 y7 y8, LeO (version_Cmp.j0 k y0 y1 y2 y3 y4 y5 y6 y7 y8) (version_Cmp.j0 (k + 1) y0 y1 y2 y3 y4 y5 y6 y7 y8)) ∧ (∀ y0 y1 y2 y3 y4 y5 y6 y7 y8, LeO (version_Cmp.j1 k y0 y1 y2 y3 y4 y5 y6 y7 y8) (version_Cmp.j1 (k + 1) y0 y1 y2 y3 y4 y5 y6 y7 y8)) ∧ (∀ y0 y1 y2 y3 y4 y5 y6 y7 y8 y9, LeO (version_Cmp.l0 k y0 y1 y2 y3 y4 y5 y6 y7 y8 y9) (version_Cmp.l0 (k + 1) y0 y1 y2 y3 y4 y5 y6 y7 y8 y9))
 | 0 => ⟨fun _ _ _ _ _ _ _ _ _ r h => by simp [version_Cmp.j0] at h, fun _ _ _ _ _ _ _ _ _ r h => by simp [version_Cmp.j1] at h, fun _ _ _ _ _ _ _ _ _ _ r h => by simp [version_Cmp.l0] at h⟩
 | k + 1 => by
  obtain ⟨ih0, ih1, ih2⟩ := version_Cmp.mono_l k
  refine ⟨?_, ?_, ?_⟩
  ·intro y0 y1 y2 y3 y4 y5 y6 y7 y8
   unfold version_Cmp.j0
   repeat' first
   | (with_reducible exact ih0 _ _ _ _ _ _ _ _ _)
   | (with_reducible exact ih1 _ _ _ _ _ _ _ _ _)
   | (with_reducible exact ih2 _ _ _ _ _ _ _ _ _ _)
   | (with_reducible exact cmp_Or_int.mono _ _)
   | (with_reducible exact version_Split.mono _ _)
   | (with_reducible exact version_numbers.mono _ _ _)
   | (with_reducible exact version_words.mono _ _ _)
   | (with_reducible exact LeO.refl _)
   | (with_reducible exact LeO.none _)
   | (with_reducible refine LeO.ite ?_ ?_)
   | (with_reducible refine LeO.bind ?_ (fun _ => ?_))
   | exact ih0 _ _ _ _ _ _ _ _ _
   | exact ih1 _ _ _ _ _ _ _ _ _
   | exact ih2 _ _ _ _ _ _ _ _ _ _
   | exact cmp_Or_int.mono _ _
   | exact version_Split.mono _ _
   | exact version_numbers.mono _ _ _
   | exact version_words.mono _ _ _
   | exact LeO.none _
   | refine LeO.ite ?_ ?_
   | refine LeO.bind ?_ (fun _ => ?_)
  ·intro y0 y1 y2 y3 y4 y5 y6 y7 y8
   unfold version_Cmp.j1
   repeat' first
   | (with_reducible exact ih0 _ _ _ _ _ _ _ _ _)
   | (with_reducible exact ih1 _ _ _ _ _ _ _ _ _)
   | (with_reducible exact ih2 _ _ _ _ _ _ _ _ _ _)
   | (with_reducible exact cmp_Or_int.mono _ _)
   | (with_reducible exact version_Split.mono _ _)
   | (with_reducible exact version_numbers.mono _ _ _)
   | (with_reducible exact version_words.mono _ _ _)
   | (with_reducible exact LeO.refl _)
   | (with_reducible exact LeO.none _)
   | (with_reducible refine LeO.ite ?_ ?_)
   | (with_reducible refine LeO.bind ?_ (fun _ => ?_))
   | exact ih0 _ _ _ _ _ _ _ _ _
   | exact ih1 _ _ _ _ _ _ _ _ _
   | exact ih2 _ _ _ _ _ _ _ _ _ _
   | exact cmp_Or_int.mono _ _
   | exact version_Split.mono _ _
   | exact version_numbers.mono _ _ _
   | exact version_words.mono _ _ _
   | exact LeO.none _
   | refine LeO.ite ?_ ?_
   | refine LeO.bind ?_ (fun _ => ?_)
  ·intro y0 y1 y2 y3 y4 y5 y6 y7 y8 y9
   unfold version_Cmp.l0
   repeat' first
   | (with_reducible exact ih0 _ _ _ _ _ _ _ _ _)
   | (with_reducible exact ih1 _ _ _ _ _ _ _ _ _)
   | (with_reducible exact ih2 _ _ _ _ _ _ _ _ _ _)
   | (with_reducible exact cmp_Or_int.mono _ _)
   | (with_reducible exact version_Split.mono _ _)
   | (with_reducible exact version_numbers.mono _ _ _)
   | (with_reducible exact version_words.mono _ _ _)
   | (with_reducible exact LeO.refl _)
   | (with_reducible exact LeO.none _)
   | (with_reducible refine LeO.ite ?_ ?_)
   | (with_reducible refine LeO.bind ?_ (fun _ => ?_))
   | exact ih0 _ _ _ _ _ _ _ _ _
   | exact ih1 _ _ _ _ _ _ _ _ _
   | exact ih2 _ _ _ _ _ _ _ _ _ _
   | exact cmp_Or_int.mono _ _
   | exact version_Split.mono _ _
   | exact version_numbers.mono _ _ _
   | exact version_words.mono _ _ _
   | exact LeO.none _
   | refine LeO.ite ?_ ?_
   | refine LeO.bind ?_ (fun _ => ?_)
theorem version_Cmp.mono : ∀ a0 a1 k, LeO (version_Cmp.f k a0 a1) (version_Cmp.f (k + 1) a0 a1) := by
 intro a0 a1 k
 obtain ⟨ih0, ih1, ih2⟩ := version_Cmp.mono_l k
 unfold version_Cmp.f
 repeat' first
   | (with_reducible exact ih0 _ _ _ _ _ _ _ _ _)
   | (with_reducible exact ih1 _ _ _ _ _ _ _ _ _)
   | (with_reducible exact ih2 _ _ _ _ _ _ _ _ _ _)
   | (with_reducible exact cmp_Or_int.mono _ _)
   | (with_reducible exact version_Split.mono _ _)
   | (with_reducible exact version_numbers.mono _ _ _)
   | (with_reducible exact version_words.mono _ _ _)
   | (with_reducible exact LeO.refl _)
   | (with_reducible exact LeO.none _)
   | (with_reducible refine LeO.ite ?_ ?_)
   | (with_reducible refine LeO.bind ?_ (fun _ => ?_))
   | exact ih0 _ _ _ _ _ _ _ _ _
   | exact ih1 _ _ _ _ _ _ _ _ _
   | exact ih2 _ _ _ _ _ _ _ _ _ _
   | exact cmp_Or_int.mono _ _
   | exact version_Split.mono _ _
   | exact version_numbers.mono _ _ _
   | exact version_words.mono _ _ _
   | exact LeO.none _
   | refine LeO.ite ?_ ?_
   | refine LeO.bind ?_ (fun _ => ?_)
def version_Cmp.T5 : Bool × List (List Nat × List Nat) := (true, [([], []), ([0], [0]), ([], []), ([2], [2]), ([], []), ([4], [4]), ([1, 3, 5], [1, 3, 5]), ([], []), ([7], [7]), ([], []), ([9], [9]), ([], []), ([11], [11]), ([8, 10, 12], [8, 10, 12]), ([], []), ([], []), ([14, 6, 0, 1, 2, 3, 4, 5, 6, 14, 15], [6, 14]), ([15, 13, 16, 0, 1, 2, 3, 4, 5, 6, 7, 8, 9, 10, 11, 12, 13, 14, 15, 16], [13, 15])])
def version_Cmp.B5 : List Nat := [0, 1, 0, 4, 0, 16, 63, 0, 128, 0, 512, 0, 2048, 8064, 0, 0, 49279, 131071]
theorem version_Cmp.tab5 : rtab .any (opsOf Tryd.f42 5) = version_Cmp.T5 := by kernel_rfl
theorem version_Cmp.bits5 : waitsOk version_Cmp.T5.2 version_Cmp.B5 = true := by kernel_rfl
def version_Cmp.T7 : Bool × List (List Nat × List Nat) := (true, [([], []), ([0], [0]), ([], []), ([2], [2]), ([1, 3], [1, 3]), ([], []), ([5], [5]), ([], []), ([7], [7]), ([6, 8, 4], [6, 8]), ([], []), ([10], [10]), ([], []), ([12], [12]), ([11, 13, 9], [11, 13]), ([4, 9, 14], [4, 9, 14]), ([15, 14], [15]), ([16, 16, 0, 1, 2, 3, 4, 5, 6, 7, 8, 9, 10, 11, 12, 13, 14, 15, 16], [16]), ([17, 0, 1, 2, 3, 4, 5, 6, 7, 8, 9, 10, 11, 12, 13, 14, 15, 16, 17], [])])
def version_Cmp.B7 : List Nat := [0, 1, 0, 4, 15, 0, 32, 0, 128, 511, 0, 1024, 0, 4096, 16383, 32767, 65535, 131071, 262143]
theorem version_Cmp.tab7 : rtab .any (opsOf Tryd.f42 7) = version_Cmp.T7 := by kernel_rfl
theorem version_Cmp.bits7 : waitsOk version_Cmp.T7.2 version_Cmp.B7 = true := by kernel_rfl
def version_Cmp.T13 : Bool × List (List Nat × List Nat) := (true, [([], []), ([0], [0]), ([], []), ([1, 2], [1, 2]), ([3], [3]), ([], []), ([5], [5]), ([], []), ([6, 7], [6, 7]), ([8], [8]), ([4, 9], [4, 9]), ([10, 10, 0, 1, 2, 3, 4, 5, 6, 7, 8, 9, 10], [10])])
def version_Cmp.B13 : List Nat := [0, 1, 0, 7, 15, 0, 32, 0, 224, 480, 1023, 2047]
theorem version_Cmp.tab13 : rtab .any (opsOf Tryd.f42 13) = version_Cmp.T13 := by kernel_rfl
theorem version_Cmp.bits13 : waitsOk version_Cmp.T13.2 version_Cmp.B13 = true := by kernel_rfl
set_option maxHeartbeats 8000000 in
set_option maxRecDepth 100000 in
theorem version_Cmp.calls (k : Nat) (a0 : ByteArray) (a1 : ByteArray) (r1 : Int) (r2 : Int) (w : World) (h : version_Cmp.f k a0 a1 = some (r1, r2)) :
  Calls Tryd.prog 42 #[.string a0, .string a1] w fun e w' => e = .returned (.tuple #[.int .i64 r1, .int .i64 r2]) ∧ Below w.heap.size w w' := by
 have hu71 := Tryd.underlying71
 have hu76 := Tryd.underlying76
 have HB := am (Below.refl w.heap.size w)
 have H : ((version_Split.f k a0).bind fun bt207 => ((version_Split.f k a1).bind fun bt215 => (if bt207.2.2.2.2 = 0 then (version_Cmp.j0 k (bt215.2.2.2.2 != 0) bt207.1 bt207.2.1 bt207.2.2.1 bt207.2.2.2.1 bt215.1 bt215.2.1 bt215.2.2.1 bt215.2.2.2.1) else (version_Cmp.j0 k true bt207.1 bt207.2.1 bt207.2.2.1 bt207.2.2.2.1 bt215.1 bt215.2.1 bt215.2.2.1 bt215.2.2.2.1)))) = some (r1, r2) := h
 clear h
 replace H := Option.bind_eq_some_iff.mp H
 obtain ⟨⟨aA, aB, aE, ar, bb⟩, A30, H⟩ := H
 replace H : ((version_Split.f k a1).bind fun bt215 => (if bb = 0 then (version_Cmp.j0 k (bt215.2.2.2.2 != 0) aA aB aE ar bt215.1 bt215.2.1 bt215.2.2.1 bt215.2.2.2.1) else (version_Cmp.j0 k true aA aB aE ar bt215.1 bt215.2.1 bt215.2.2.1 bt215.2.2.2.1))) = some (r1, r2) := H
 have A3 := Aside0.mk A30
 clear A30
 replace H := Option.bind_eq_some_iff.mp H
 obtain ⟨⟨az, aC, aF, aw, cK⟩, A40, H⟩ := H
 replace H : (if bb = 0 then (version_Cmp.j0 k (cK != 0) aA aB aE ar az aC aF aw) else (version_Cmp.j0 k true aA aB aE ar az aC aF aw)) = some (r1, r2) := H
 have A4 := Aside0.mk A40
 clear A40
 have HC5 := Aside0.mk H
 clear H
 go_enter Tryd.func42, Tryd.ntmps42
 go_upto_region 3 with (first | ((with_reducible refine gate_callee (f := 46) rfl ?_); refine gL (some 16) Tryd.func46 #[.string a0] ?_; (with_reducible refine (version_Split.calls k a0 aA aB aE ar bb _ A3.out).mono ?_); rintro e w6 ⟨gn, rfl, ho0, hb⟩; refine ⟨_, rfl, ?_⟩; have aU := am (Kd.R_lower ho0 (below_size (by repeat (first | (with_reducible first | exact HB.out | apply pA | apply pN | apply pD) | exact HB.out)))); replace HB := am (below_step (by repeat (first | (with_reducible first | exact HB.out | apply pA | apply pN | apply pD) | exact HB.out)) hb); (try clear hb); (try clear hb2); (try clear hk); (try clear hi); (try clear ho0)) | ((with_reducible refine gate_dst (N := 6) rfl ?_); (try (refine gate_guard (by rfl) ?_; dsimp only)); refine box_event ?hg (N := 6) ?hd (cs := #[.string (⟨#[]⟩ : ByteArray), .string (⟨#[]⟩ : ByteArray), .string (⟨#[]⟩ : ByteArray), .slice none 0 0]) (t := 71) ?hr ?_; (case hd => rfl); (case hg => rfl); (case hr => first | (go_simp; done) | (go_simp; rfl)); intro ao hg w7 hbox hb; replace aU := am (rB aU.out hb); have aa := am (hbox); have e9 := am ((by rw [hg]; exact (below_size (by repeat (first | (with_reducible first | exact HB.out | apply pA | apply pN | apply pD) | exact HB.out))) : w.heap.size ≤ ao)); have e_ := am ((by rw [hg]; exact (below_size (by repeat (first | (with_reducible first | exact HB.out | apply pA | apply pN | apply pD) | exact HB.out))) : w.heap.size ≤ ao)); replace HB := am (below_step (by repeat (first | (with_reducible first | exact HB.out | apply pA | apply pN | apply pD) | exact HB.out)) hb); clear hb hbox hg; have cL : w7.cell? ⟨ao, 0, none⟩ = some (.string (⟨#[]⟩ : ByteArray)) := cT aa 0; have cM : w7.cell? ⟨ao, 1, none⟩ = some (.string (⟨#[]⟩ : ByteArray)) := cT aa 1; have cN : w7.cell? ⟨ao, 2, none⟩ = some (.string (⟨#[]⟩ : ByteArray)) := cT aa 2; have cO : w7.cell? ⟨ao, 3, none⟩ = some (.slice none 0 0) := cT aa 3; have cP := blk_frozen aa.out 0; have cQ := blk_frozen aa.out 1; have cR := blk_frozen aa.out 2; have cS := blk_frozen aa.out 3; obtain ⟨Ao9, co9, eo9⟩ := Kd.R_slice aU.out; subst eo9) | ((with_reducible refine gate_callee (f := 46) rfl ?_); refine gL (some 21) Tryd.func46 #[.string a1] ?_; (with_reducible refine (version_Split.calls k a1 az aC aF aw cK _ A4.out).mono ?_); rintro e w10 ⟨go, rfl, ho0, hb⟩; refine ⟨_, rfl, ?_⟩; have bc := am (Kd.R_lower (Kd.R_new' ho0 (Kd.R_lt (by (with_reducible repeat (first | apply Kd.R_alloc | apply Kd.R_drewN | apply Kd.R_drew)); exact (Kd.R_mono (Kd.R_far (p := ⟨ao, 3, none⟩) (Kd.R_far (p := ⟨ao, 2, none⟩) (Kd.R_far (p := ⟨ao, 1, none⟩) (Kd.R_far (p := ⟨ao, 0, none⟩) (Kd.R_types aU.out aa.out (by decide)) (fun _ hk => hk.2) (.string aA)) (fun _ hk => hk.2) (.string aB)) (fun _ hk => hk.2) (.string aE)) (fun _ hk => hk.2) (.slice Ao9 ar.length co9)) (fun _ h_ => h_.1))))) (below_size (by repeat (first | (with_reducible first | exact HB.out | apply pA | apply pN | apply pD | refine eU ?_ (by assumption)) | exact HB.out)))); replace aU := am (Kd.R_elder' (by (with_reducible repeat (first | apply Kd.R_alloc | apply Kd.R_drewN | apply Kd.R_drew)); exact (Kd.R_mono (Kd.R_far (p := ⟨ao, 3, none⟩) (Kd.R_far (p := ⟨ao, 2, none⟩) (Kd.R_far (p := ⟨ao, 1, none⟩) (Kd.R_far (p := ⟨ao, 0, none⟩) (Kd.R_types aU.out aa.out (by decide)) (fun _ hk => hk.2) (.string aA)) (fun _ hk => hk.2) (.string aB)) (fun _ hk => hk.2) (.string aE)) (fun _ hk => hk.2) (.slice Ao9 ar.length co9)) (fun _ h_ => h_.1))) (Kd.R_base ho0) hb); replace HB := am (below_step (by repeat (first | (with_reducible first | exact HB.out | apply pA | apply pN | apply pD | refine eU ?_ (by assumption)) | exact HB.out)) hb); replace aa := am (blk_below (g := ao) (o := .cells #[.string aA, .string aB, .string aE, .slice Ao9 ar.length co9] 71 (0, 0)) (by (with_reducible repeat (first | apply bn | apply bd | apply ba)); refine blk_put (cs := #[.string aA, .string aB, .string aE, .slice none 0 0]) ?_ 3 _ rfl; (with_reducible repeat (first | apply bn | apply bd | apply ba)); refine blk_put (cs := #[.string aA, .string aB, .string (⟨#[]⟩ : ByteArray), .slice none 0 0]) ?_ 2 _ rfl; (with_reducible repeat (first | apply bn | apply bd | apply ba)); refine blk_put (cs := #[.string aA, .string (⟨#[]⟩ : ByteArray), .string (⟨#[]⟩ : ByteArray), .slice none 0 0]) ?_ 1 _ rfl; (with_reducible repeat (first | apply bn | apply bd | apply ba)); refine blk_put (cs := #[.string (⟨#[]⟩ : ByteArray), .string (⟨#[]⟩ : ByteArray), .string (⟨#[]⟩ : ByteArray), .slice none 0 0]) ?_ 0 _ rfl; exact bT aa.out) hb); (try clear hb); (try clear hb2); (try clear hk); (try clear hi); (try clear ho0)) | ((with_reducible refine gate_dst (N := 8) rfl ?_); (try (refine gate_guard (by rfl) ?_; dsimp only)); refine box_event ?hg (N := 8) ?hd (cs := #[.string (⟨#[]⟩ : ByteArray), .string (⟨#[]⟩ : ByteArray), .string (⟨#[]⟩ : ByteArray), .slice none 0 0]) (t := 71) ?hr ?_; (case hd => rfl); (case hg => rfl); (case hr => first | (go_simp; done) | (go_simp; rfl)); intro an hg w11 hbox hb; replace aU := am (rB aU.out hb); replace bc := am (rB bc.out hb); have ab := am (hbox); have fa := am ((by rw [hg]; exact (below_size (by repeat (first | (with_reducible first | exact HB.out | apply pA | apply pN | apply pD | refine eU ?_ (by assumption)) | exact HB.out))) : w.heap.size ≤ an)); have fb := am ((by rw [hg]; exact (below_size (by repeat (first | (with_reducible first | exact HB.out | apply pA | apply pN | apply pD | refine eU ?_ (by assumption)) | exact HB.out))) : w.heap.size ≤ an)); have aG := am ((nT aa.out hg)); have aL := am ((mT aa.out hg)); replace aa := am (bB aa.out hb); replace HB := am (below_step (by repeat (first | (with_reducible first | exact HB.out | apply pA | apply pN | apply pD | refine eU ?_ (by assumption)) | exact HB.out)) hb); clear hb hbox hg; have fc := aL.out; have fd := aG.out; have b3 : w11.cell? ⟨an, 0, none⟩ = some (.string (⟨#[]⟩ : ByteArray)) := cT ab 0; have b4 : w11.cell? ⟨an, 1, none⟩ = some (.string (⟨#[]⟩ : ByteArray)) := cT ab 1; have b5 : w11.cell? ⟨an, 2, none⟩ = some (.string (⟨#[]⟩ : ByteArray)) := cT ab 2; have b6 : w11.cell? ⟨an, 3, none⟩ = some (.slice none 0 0) := cT ab 3; have b7 := blk_frozen ab.out 0; have b8 := blk_frozen ab.out 1; have b9 := blk_frozen ab.out 2; have b_ := blk_frozen ab.out 3; obtain ⟨aI, aH, eV⟩ := Kd.R_slice bc.out; subst eV))
 (try simp only [Act.put, List.setIfInBounds_toArray, List.set_cons_zero, List.set_cons_succ])
 go_cut [29] (fun v29 wc => ∃ (kq : Nat) (bh : Bool), v29 = .bool bh ∧ Aside0 (version_Cmp.j0 kq bh aA aB aE ar az aC aF aw = some (r1, r2)) ∧ Aside0 (kq ≤ k) ∧ Aside0 (Kd.R Kd.string 9 wc w.heap.size (fun k_ => some k_ ≠ ((.slice aI aw.length aH) : Value).ownBlock) (.slice Ao9 ar.length co9) ar) ∧ Aside0 (Kd.R Kd.string 9 wc w.heap.size (fun k_ => some k_ ≠ ((.slice Ao9 ar.length co9) : Value).ownBlock) (.slice aI aw.length aH) aw) ∧ Aside0 (wc.heap[ao]? = some (.cells #[.string aA, .string aB, .string aE, (.slice Ao9 ar.length co9)] 71 (0, 0))) ∧ Aside0 (wc.heap[an]? = some (.cells #[.string az, .string aC, .string aF, (.slice aI aw.length aH)] 71 (0, 0))) ∧ Aside0 (Below w.heap.size w wc))
 case first =>
  have H := HC5.out
  clear HC5
  by_cases c15 : bb = 0
  ·rw [if_pos c15] at H
   have a9 : (bb == 0) = true := beq_iff_eq.mpr c15
   have cH : (bb != 0) = false := bne_eq_false_iff_eq.mpr c15
   clear c15
   (first | rw [a9] | (simp only [i64_w, i32_w]; rw [a9]) | skip)
   have H' := Aside0.mk H
   clear H
   go_wp2
   go_meet
   case rel => exact ⟨_, ((cK != 0)), (by first | rfl | (simp; done) | (simp [*]; done)), H', ⟨by first | omega | exact Nat.le_refl _⟩, ⟨by (with_reducible repeat (first | apply Kd.R_alloc | apply Kd.R_drewN | apply Kd.R_drew)); exact Kd.R_mono (Kd.R_far (p := ⟨an, 3, none⟩) (Kd.R_far (p := ⟨an, 2, none⟩) (Kd.R_far (p := ⟨an, 1, none⟩) (Kd.R_far (p := ⟨an, 0, none⟩) (Kd.R_types aU.out ab.out (by decide)) (fun _ hk => hk.2) (.string az)) (fun _ hk => hk.2) (.string aC)) (fun _ hk => hk.2) (.string aF)) (fun _ hk => hk.2) (.slice aI aw.length aH)) (fun _ hk => hk.1.2)⟩, ⟨by (with_reducible repeat (first | apply Kd.R_alloc | apply Kd.R_drewN | apply Kd.R_drew)); exact Kd.R_mono (Kd.R_far (p := ⟨an, 3, none⟩) (Kd.R_far (p := ⟨an, 2, none⟩) (Kd.R_far (p := ⟨an, 1, none⟩) (Kd.R_far (p := ⟨an, 0, none⟩) (Kd.R_types bc.out ab.out (by decide)) (fun _ hk => hk.2) (.string az)) (fun _ hk => hk.2) (.string aC)) (fun _ hk => hk.2) (.string aF)) (fun _ hk => hk.2) (.slice aI aw.length aH)) (fun _ hk => hk.1.2)⟩, ⟨by (with_reducible repeat (first | apply bn | apply bd | apply ba)); refine blk_far ?_ aG.out _; (with_reducible repeat (first | apply bn | apply bd | apply ba)); refine blk_far ?_ aG.out _; (with_reducible repeat (first | apply bn | apply bd | apply ba)); refine blk_far ?_ aG.out _; (with_reducible repeat (first | apply bn | apply bd | apply ba)); refine blk_far ?_ aG.out _; exact bT aa.out⟩, ⟨by (with_reducible repeat (first | apply bn | apply bd | apply ba)); refine blk_put (cs := #[.string az, .string aC, .string aF, .slice none 0 0]) ?_ 3 _ rfl; (with_reducible repeat (first | apply bn | apply bd | apply ba)); refine blk_put (cs := #[.string az, .string aC, .string (⟨#[]⟩ : ByteArray), .slice none 0 0]) ?_ 2 _ rfl; (with_reducible repeat (first | apply bn | apply bd | apply ba)); refine blk_put (cs := #[.string az, .string (⟨#[]⟩ : ByteArray), .string (⟨#[]⟩ : ByteArray), .slice none 0 0]) ?_ 1 _ rfl; (with_reducible repeat (first | apply bn | apply bd | apply ba)); refine blk_put (cs := #[.string (⟨#[]⟩ : ByteArray), .string (⟨#[]⟩ : ByteArray), .string (⟨#[]⟩ : ByteArray), .slice none 0 0]) ?_ 0 _ rfl; exact bT ab.out⟩, ⟨by repeat (first | (with_reducible first | exact HB.out | apply pA | apply pN | apply pD | refine eU ?_ (by assumption)) | exact HB.out)⟩⟩
  ·rw [if_neg c15] at H
   have a9 : (bb == 0) = false := beq_eq_false_iff_ne.mpr c15
   have cH : (bb != 0) = true := bne_iff_ne.mpr c15
   (first | rw [a9] | (simp only [i64_w, i32_w]; rw [a9]) | skip)
   have H' := Aside0.mk H
   clear H
   go_wp2
   go_meet
   case rel => exact ⟨_, (true), (by first | rfl | (simp; done) | (simp [*]; done)), H', ⟨by first | omega | exact Nat.le_refl _⟩, ⟨by (with_reducible repeat (first | apply Kd.R_alloc | apply Kd.R_drewN | apply Kd.R_drew)); exact Kd.R_mono (Kd.R_far (p := ⟨an, 3, none⟩) (Kd.R_far (p := ⟨an, 2, none⟩) (Kd.R_far (p := ⟨an, 1, none⟩) (Kd.R_far (p := ⟨an, 0, none⟩) (Kd.R_types aU.out ab.out (by decide)) (fun _ hk => hk.2) (.string az)) (fun _ hk => hk.2) (.string aC)) (fun _ hk => hk.2) (.string aF)) (fun _ hk => hk.2) (.slice aI aw.length aH)) (fun _ hk => hk.1.2)⟩, ⟨by (with_reducible repeat (first | apply Kd.R_alloc | apply Kd.R_drewN | apply Kd.R_drew)); exact Kd.R_mono (Kd.R_far (p := ⟨an, 3, none⟩) (Kd.R_far (p := ⟨an, 2, none⟩) (Kd.R_far (p := ⟨an, 1, none⟩) (Kd.R_far (p := ⟨an, 0, none⟩) (Kd.R_types bc.out ab.out (by decide)) (fun _ hk => hk.2) (.string az)) (fun _ hk => hk.2) (.string aC)) (fun _ hk => hk.2) (.string aF)) (fun _ hk => hk.2) (.slice aI aw.length aH)) (fun _ hk => hk.1.2)⟩, ⟨by (with_reducible repeat (first | apply bn | apply bd | apply ba)); refine blk_far ?_ aG.out _; (with_reducible repeat (first | apply bn | apply bd | apply ba)); refine blk_far ?_ aG.out _; (with_reducible repeat (first | apply bn | apply bd | apply ba)); refine blk_far ?_ aG.out _; (with_reducible repeat (first | apply bn | apply bd | apply ba)); refine blk_far ?_ aG.out _; exact bT aa.out⟩, ⟨by (with_reducible repeat (first | apply bn | apply bd | apply ba)); refine blk_put (cs := #[.string az, .string aC, .string aF, .slice none 0 0]) ?_ 3 _ rfl; (with_reducible repeat (first | apply bn | apply bd | apply ba)); refine blk_put (cs := #[.string az, .string aC, .string (⟨#[]⟩ : ByteArray), .slice none 0 0]) ?_ 2 _ rfl; (with_reducible repeat (first | apply bn | apply bd | apply ba)); refine blk_put (cs := #[.string az, .string (⟨#[]⟩ : ByteArray), .string (⟨#[]⟩ : ByteArray), .slice none 0 0]) ?_ 1 _ rfl; (with_reducible repeat (first | apply bn | apply bd | apply ba)); refine blk_put (cs := #[.string (⟨#[]⟩ : ByteArray), .string (⟨#[]⟩ : ByteArray), .string (⟨#[]⟩ : ByteArray), .slice none 0 0]) ?_ 0 _ rfl; exact bT ab.out⟩, ⟨by repeat (first | (with_reducible first | exact HB.out | apply pA | apply pN | apply pD | refine eU ?_ (by assumption)) | exact HB.out)⟩⟩
 case rest =>
  clear HC5
  try clear c1
  try clear p2
  try clear c4
  try clear c12
  try clear c15
  try clear a9
  try clear cH
  try clear b3
  try clear b4
  try clear b5
  try clear b6
  try clear cL
  try clear cM
  try clear cN
  try clear cO
  try clear b7
  try clear b8
  try clear b9
  try clear b_
  try clear cP
  try clear cQ
  try clear cR
  try clear cS
  obtain ⟨kq, bh, rfl, HA, HJ4, ac, ad, aa, ab, HB⟩ := hcut
  cases kq with
  | zero => exact absurd HA.out (by simp [version_Cmp.j0])
  | succ kj4 =>
   have H := HA.out
   clear HA
   simp only [version_Cmp.j0] at H
   by_cases c16 : bh = true
   ·subst c16
    have H1 : (some (0, 1)) = some (r1, r2) := by rw [if_pos rfl] at H; exact H
    clear H
    have H := H1
    clear H1
    simp only [Option.some.injEq, Prod.mk.injEq] at H
    obtain ⟨rfl, rfl⟩ := H
    go_wp2
    go_ret2
    exact ⟨by first | rfl | (simp [errW_none, errW_some] <;> rfl) | (simp [*, errW_none, errW_some] <;> rfl), eT HB.out⟩
   ·replace c16 := Bool.eq_false_iff.mpr c16
    subst c16
    have H1 : (if (!(aA.toList == az.toList) || (!(aB.toList == aC.toList) || (!(aE.toList == aF.toList)))) = true then ((version_numbers.f kj4 aA az).bind fun a6 => ((version_numbers.f kj4 aB aC).bind fun aW => ((version_numbers.f kj4 aE aF).bind fun aV => ((cmp_Or_int.f kj4 (([a6, aW, aV] : List Int))).bind fun aX => (some (aX, 0)))))) else (if (ar.length : Int) = 0 then (version_Cmp.j1 kj4 true aA aB aE ar az aC aF aw) else (version_Cmp.j1 kj4 ((aw.length : Int) == 0) aA aB aE ar az aC aF aw))) = some (r1, r2) := by rw [if_neg (show ¬ (false = true) by decide)] at H; exact H
    clear H
    have H := H1
    clear H1
    by_cases c17 : (!(aA.toList == az.toList) || (!(aB.toList == aC.toList) || (!(aE.toList == aF.toList)))) = true
    ·rw [if_pos c17] at H
     have bZ : (!(aA.toList == az.toList) || (!(aB.toList == aC.toList) || (!(aE.toList == aF.toList)))) = true := c17
     clear c17
     replace H := Option.bind_eq_some_iff.mp H
     obtain ⟨a6, cY, H⟩ := H
     replace H : ((version_numbers.f kj4 aB aC).bind fun aW => ((version_numbers.f kj4 aE aF).bind fun aV => ((cmp_Or_int.f kj4 (([a6, aW, aV] : List Int))).bind fun aX => (some (aX, 0))))) = some (r1, r2) := H
     have A18 := Aside0.mk cY
     clear cY
     replace H := Option.bind_eq_some_iff.mp H
     obtain ⟨aW, cZ, H⟩ := H
     replace H : ((version_numbers.f kj4 aE aF).bind fun aV => ((cmp_Or_int.f kj4 (([a6, aW, aV] : List Int))).bind fun aX => (some (aX, 0)))) = some (r1, r2) := H
     have A19 := Aside0.mk cZ
     clear cZ
     replace H := Option.bind_eq_some_iff.mp H
     obtain ⟨aV, c0, H⟩ := H
     replace H : ((cmp_Or_int.f kj4 (([a6, aW, aV] : List Int))).bind fun aX => (some (aX, 0))) = some (r1, r2) := H
     have A20 := Aside0.mk c0
     clear c0
     obtain ⟨cU, be⟩ : ∃ y_ : List Int, y_ = (([a6, aW, aV] : List Int)) := ⟨_, rfl⟩
     replace H : ((cmp_Or_int.f kj4 cU).bind fun aX => (some (aX, 0))) = some (r1, r2) := by first | (rw [be]; with_reducible exact H) | (have H2_ := (Option.bind_some _ _).symm.trans H; rw [be]; with_reducible exact H2_) | (have H2_ := (Option.bind_some _ _).symm.trans H; with_reducible exact H2_) | with_reducible exact H | (rw [be]; exact H) | exact H
     have Ny228 := Aside0.mk be
     clear be
     replace H := Option.bind_eq_some_iff.mp H
     obtain ⟨aX, c2, H⟩ := H
     replace H : (some (aX, 0)) = some (r1, r2) := H
     have A21 := Aside0.mk c2
     clear c2
     simp only [Option.some.injEq, Prod.mk.injEq] at H
     obtain ⟨rfl, rfl⟩ := H
     try go_wp2
     replace ac := am (Kd.R_drew ac.out)
     replace ad := am (Kd.R_drew ad.out)
     replace aa := am (blk_drew aa.out)
     replace ab := am (blk_drew ab.out)
     replace HB := am (below_drew1 HB.out)
     refine start_ (n := 18) (S := fun w' => w'.cell? ⟨ao, 0, none⟩ = some (.string aA) ∧ w'.cell? ⟨ao, 1, none⟩ = some (.string aB) ∧ w'.cell? ⟨ao, 2, none⟩ = some (.string aE) ∧ w'.cell? ⟨ao, 3, none⟩ = some (.slice Ao9 ar.length co9) ∧ w'.cell? ⟨an, 0, none⟩ = some (.string az) ∧ w'.cell? ⟨an, 1, none⟩ = some (.string aC) ∧ w'.cell? ⟨an, 2, none⟩ = some (.string aF) ∧ w'.cell? ⟨an, 3, none⟩ = some (.slice aI aw.length aH)) (ds := []) (bA 18 0) (by kernel_rfl) rfl (by kernel_rfl) ⟨cT aa 0, cT aa 1, cT aa 2, cT aa 3, cT ab 0, cT ab 1, cT ab 2, cT ab 3⟩ (fun hHeld => ?_); refine with_tabW version_Cmp.tab5 version_Cmp.bits5 (fun HT_ HW_ => ?_)
     generalize wc.drew = w22 at ac ad aa ab HB hHeld ⊢
     refine pT 0 30 (bA 18 1) HT_.out ?_
     refine pT 2 32 (bA 18 5) HT_.out ?_
     refine pT 4 34 (bA 18 21) HT_.out ?_
     refine pT 7 37 (bA 18 149) HT_.out ?_
     refine pT 9 39 (bA 18 661) HT_.out ?_
     refine pT 11 41 (bA 18 2709) HT_.out ?_
     refine tT 1 31 (bA 18 2711) HT_.out HW_.out hHeld ?_ (hy := by rintro w' ⟨s0, s1, s2, s3, s4, s5, s6, s7⟩; go_simp; with_reducible rfl)
     refine tT 3 33 (bA 18 2719) HT_.out HW_.out hHeld ?_ (hy := by rintro w' ⟨s0, s1, s2, s3, s4, s5, s6, s7⟩; go_simp; with_reducible rfl)
     refine tT 5 35 (bA 18 2751) HT_.out HW_.out hHeld ?_ (hy := by rintro w' ⟨s0, s1, s2, s3, s4, s5, s6, s7⟩; go_simp; with_reducible rfl)
     refine pT 6 36 (bA 18 2815) HT_.out ?_
     refine tT 8 38 (bA 18 3071) HT_.out HW_.out hHeld ?_ (hy := by rintro w' ⟨s0, s1, s2, s3, s4, s5, s6, s7⟩; go_simp; with_reducible rfl)
     refine tT 10 40 (bA 18 4095) HT_.out HW_.out hHeld ?_ (hy := by rintro w' ⟨s0, s1, s2, s3, s4, s5, s6, s7⟩; go_simp; with_reducible rfl)
     refine tT 12 42 (bA 18 8191) HT_.out HW_.out hHeld ?_ (hy := by rintro w' ⟨s0, s1, s2, s3, s4, s5, s6, s7⟩; go_simp; with_reducible rfl)
     refine pT 13 43 (bA 18 16383) HT_.out ?_
     refine join_ (σ := Nat × Nat) 2 (bA 18 65535) (fun s_ => [(10, .pointer (some ⟨s_.1, 0, none⟩)), (11, .pointer (some ⟨s_.2, 0, none⟩))]) (fun s_ w' => (w'.cell? ⟨ao, 0, none⟩ = some (.string aA) ∧ w'.cell? ⟨ao, 1, none⟩ = some (.string aB) ∧ w'.cell? ⟨ao, 2, none⟩ = some (.string aE) ∧ w'.cell? ⟨ao, 3, none⟩ = some (.slice Ao9 ar.length co9) ∧ w'.cell? ⟨an, 0, none⟩ = some (.string az) ∧ w'.cell? ⟨an, 1, none⟩ = some (.string aC) ∧ w'.cell? ⟨an, 2, none⟩ = some (.string aF) ∧ w'.cell? ⟨an, 3, none⟩ = some (.slice aI aw.length aH)) ∧ (Kd.R Kd.string 9 w' w.heap.size (fun k_ => some k_ ≠ (.slice aI aw.length aH : Value).ownBlock) (.slice Ao9 ar.length co9) ar) ∧ (Kd.R Kd.string 9 w' w.heap.size (fun k_ => some k_ ≠ (.slice Ao9 ar.length co9 : Value).ownBlock) (.slice aI aw.length aH) aw) ∧ (w'.heap[ao]? = some (.cells #[.string aA, .string aB, .string aE, .slice Ao9 ar.length co9] 71 (0, 0))) ∧ (w'.heap[an]? = some (.cells #[.string az, .string aC, .string aF, .slice aI aw.length aH] 71 (0, 0))) ∧ (w'.heap[s_.1]? = some (.cells #[.string (⟨#[]⟩ : ByteArray), .string (⟨#[]⟩ : ByteArray), .string (⟨#[]⟩ : ByteArray)] 76 (0, 0))) ∧ (w'.heap[s_.2]? = some (.cells #[.string (⟨#[]⟩ : ByteArray), .string (⟨#[]⟩ : ByteArray), .string (⟨#[]⟩ : ByteArray)] 76 (0, 0))) ∧ (w.heap.size ≤ s_.1) ∧ (w.heap.size ≤ s_.1) ∧ (ao ≠ s_.1) ∧ (s_.1 ≠ ao) ∧ (an ≠ s_.1) ∧ (s_.1 ≠ an) ∧ (s_.2 ≠ s_.1) ∧ (s_.1 ≠ s_.2) ∧ (w.heap.size ≤ s_.2) ∧ (w.heap.size ≤ s_.2) ∧ (ao ≠ s_.2) ∧ (s_.2 ≠ ao) ∧ (an ≠ s_.2) ∧ (s_.2 ≠ an) ∧ (Below w.heap.size w w')) ?_ ?_
     rotate_left
     ·intro hCont
      refine two_ (i := 14) (j := 15) (Ni := some 10) (Nj := some 11) (bA 18 32767) (bA 18 49151) rfl rfl rfl rfl (two_of HT_.out (by kernel_rfl)) (by decide) (by decide) (fun K hK => ?_) (fun K hK => ?_)
      ·skip
       refine box_step ?hg (N := 10) ?hd (cs := #[.string (⟨#[]⟩ : ByteArray), .string (⟨#[]⟩ : ByteArray), .string (⟨#[]⟩ : ByteArray)]) (t := 76) ?hr ?_; (case hd => rfl); (case hg => rfl); (case hr => first | (go_simp; done) | (go_simp; rfl))
       intro ae hg w23 hbox hb
       replace ac := am (rB ac.out hb)
       replace ad := am (rB ad.out hb)
       have ak := am (hbox)
       have aY := am ((gT hg HB.out))
       have aZ := am ((gT hg HB.out))
       have ag := am ((nT aa.out hg))
       have au := am ((mT aa.out hg))
       have ai := am ((nT ab.out hg))
       have ax := am ((mT ab.out hg))
       replace aa := am (bB aa.out hb)
       replace ab := am (bB ab.out hb)
       replace HB := am (sT HB.out hb)
       clear hb hbox hg
       refine hK.out _ _ ⟨cT aa 0, cT aa 1, cT aa 2, cT aa 3, cT ab 0, cT ab 1, cT ab 2, cT ab 3⟩ (fun hHeld => ?_)
       clear hK K
       refine mN 10 ?_
       refine oT 15 (bA 18 65535) HT_.out fun K hK => ?_
       refine box_step ?hg (N := 11) ?hd (cs := #[.string (⟨#[]⟩ : ByteArray), .string (⟨#[]⟩ : ByteArray), .string (⟨#[]⟩ : ByteArray)]) (t := 76) ?hr ?_; (case hd => rfl); (case hg => rfl); (case hr => first | (go_simp; done) | (go_simp; rfl))
       intro af hg w24 hbox hb
       replace ac := am (rB ac.out hb)
       replace ad := am (rB ad.out hb)
       have al := am (hbox)
       have a2 := am ((gT hg HB.out))
       have a3 := am ((gT hg HB.out))
       have ah := am ((nT aa.out hg))
       have av := am ((mT aa.out hg))
       have aj := am ((nT ab.out hg))
       have ay := am ((mT ab.out hg))
       have ap := am ((nT ak.out hg))
       have aq := am ((mT ak.out hg))
       replace aa := am (bB aa.out hb)
       replace ab := am (bB ab.out hb)
       replace ak := am (bB ak.out hb)
       replace HB := am (sT HB.out hb)
       clear hb hbox hg
       refine hK.out _ _ ⟨cT aa 0, cT aa 1, cT aa 2, cT aa 3, cT ab 0, cT ab 1, cT ab 2, cT ab 3⟩ (fun hHeld => ?_)
       clear hK K
       refine mN 11 ?_
       exact norm_ (by simp only [putAll, Act.put, List.setIfInBounds_toArray, List.set_cons_zero, List.set_cons_succ]) (hCont (ae, af) _ ⟨hHeld, (rT ac.out), (rT ad.out), (bT aa.out), (bT ab.out), (bT ak.out), (bT al.out), aY.out, aZ.out, ag.out, au.out, ai.out, ax.out, aq.out, ap.out, a2.out, a3.out, ah.out, av.out, aj.out, ay.out, (eT HB.out)⟩)
      ·skip
       refine box_step ?hg (N := 11) ?hd (cs := #[.string (⟨#[]⟩ : ByteArray), .string (⟨#[]⟩ : ByteArray), .string (⟨#[]⟩ : ByteArray)]) (t := 76) ?hr ?_; (case hd => rfl); (case hg => rfl); (case hr => first | (go_simp; done) | (go_simp; rfl))
       intro af hg w23 hbox hb
       replace ac := am (rB ac.out hb)
       replace ad := am (rB ad.out hb)
       have al := am (hbox)
       have a2 := am ((gT hg HB.out))
       have a3 := am ((gT hg HB.out))
       have ah := am ((nT aa.out hg))
       have av := am ((mT aa.out hg))
       have aj := am ((nT ab.out hg))
       have ay := am ((mT ab.out hg))
       replace aa := am (bB aa.out hb)
       replace ab := am (bB ab.out hb)
       replace HB := am (sT HB.out hb)
       clear hb hbox hg
       refine hK.out _ _ ⟨cT aa 0, cT aa 1, cT aa 2, cT aa 3, cT ab 0, cT ab 1, cT ab 2, cT ab 3⟩ (fun hHeld => ?_)
       clear hK K
       refine mN 11 ?_
       refine oT 14 (bA 18 65535) HT_.out fun K hK => ?_
       refine box_step ?hg (N := 10) ?hd (cs := #[.string (⟨#[]⟩ : ByteArray), .string (⟨#[]⟩ : ByteArray), .string (⟨#[]⟩ : ByteArray)]) (t := 76) ?hr ?_; (case hd => rfl); (case hg => rfl); (case hr => first | (go_simp; done) | (go_simp; rfl))
       intro ae hg w24 hbox hb
       replace ac := am (rB ac.out hb)
       replace ad := am (rB ad.out hb)
       have ak := am (hbox)
       have aY := am ((gT hg HB.out))
       have aZ := am ((gT hg HB.out))
       have ag := am ((nT aa.out hg))
       have au := am ((mT aa.out hg))
       have ai := am ((nT ab.out hg))
       have ax := am ((mT ab.out hg))
       have aq := am ((nT al.out hg))
       have ap := am ((mT al.out hg))
       replace aa := am (bB aa.out hb)
       replace ab := am (bB ab.out hb)
       replace al := am (bB al.out hb)
       replace HB := am (sT HB.out hb)
       clear hb hbox hg
       refine hK.out _ _ ⟨cT aa 0, cT aa 1, cT aa 2, cT aa 3, cT ab 0, cT ab 1, cT ab 2, cT ab 3⟩ (fun hHeld => ?_)
       clear hK K
       refine mN 10 ?_
       exact norm_ (by simp only [putAll, Act.put, List.setIfInBounds_toArray, List.set_cons_zero, List.set_cons_succ]) (hCont (ae, af) _ ⟨hHeld, (rT ac.out), (rT ad.out), (bT aa.out), (bT ab.out), (bT ak.out), (bT al.out), aY.out, aZ.out, ag.out, au.out, ai.out, ax.out, aq.out, ap.out, a2.out, a3.out, ah.out, av.out, aj.out, ay.out, (eT HB.out)⟩)
     rintro ⟨ae, af⟩ w25 ⟨hS_, h0_, h1_, h2_, h3_, h4_, h5_, h6_, h7_, h8_, h9_, h10_, h11_, h12_, h13_, h14_, h15_, h16_, h17_, h18_, h19_, h20_⟩
     replace ac : Aside0 (Kd.R Kd.string 9 w25 w.heap.size (fun k_ => some k_ ≠ (.slice aI aw.length aH : Value).ownBlock) (.slice Ao9 ar.length co9) ar) := ⟨h0_⟩
     replace ad : Aside0 (Kd.R Kd.string 9 w25 w.heap.size (fun k_ => some k_ ≠ (.slice Ao9 ar.length co9 : Value).ownBlock) (.slice aI aw.length aH) aw) := ⟨h1_⟩
     replace aa : Aside0 (w25.heap[ao]? = some (.cells #[.string aA, .string aB, .string aE, .slice Ao9 ar.length co9] 71 (0, 0))) := ⟨h2_⟩
     replace ab : Aside0 (w25.heap[an]? = some (.cells #[.string az, .string aC, .string aF, .slice aI aw.length aH] 71 (0, 0))) := ⟨h3_⟩
     have ak : Aside0 (w25.heap[ae]? = some (.cells #[.string (⟨#[]⟩ : ByteArray), .string (⟨#[]⟩ : ByteArray), .string (⟨#[]⟩ : ByteArray)] 76 (0, 0))) := ⟨h4_⟩
     have al : Aside0 (w25.heap[af]? = some (.cells #[.string (⟨#[]⟩ : ByteArray), .string (⟨#[]⟩ : ByteArray), .string (⟨#[]⟩ : ByteArray)] 76 (0, 0))) := ⟨h5_⟩
     have aY : Aside0 (w.heap.size ≤ ae) := ⟨h6_⟩
     have aZ : Aside0 (w.heap.size ≤ ae) := ⟨h7_⟩
     have ag : Aside0 (ao ≠ ae) := ⟨h8_⟩
     have au : Aside0 (ae ≠ ao) := ⟨h9_⟩
     have ai : Aside0 (an ≠ ae) := ⟨h10_⟩
     have ax : Aside0 (ae ≠ an) := ⟨h11_⟩
     have aq : Aside0 (af ≠ ae) := ⟨h12_⟩
     have ap : Aside0 (ae ≠ af) := ⟨h13_⟩
     have a2 : Aside0 (w.heap.size ≤ af) := ⟨h14_⟩
     have a3 : Aside0 (w.heap.size ≤ af) := ⟨h15_⟩
     have ah : Aside0 (ao ≠ af) := ⟨h16_⟩
     have av : Aside0 (af ≠ ao) := ⟨h17_⟩
     have aj : Aside0 (an ≠ af) := ⟨h18_⟩
     have ay : Aside0 (af ≠ an) := ⟨h19_⟩
     replace HB : Aside0 (Below w.heap.size w w25) := ⟨h20_⟩
     clear h0_ h1_ h2_ h3_ h4_ h5_ h6_ h7_ h8_ h9_ h10_ h11_ h12_ h13_ h14_ h15_ h16_ h17_ h18_ h19_ h20_
     have hHeld := hS_
     (try dsimp only at hHeld)
     refine rN ?_
     refine oT 16 (bA 18 131071) HT_.out fun K hK => ?_
     have gp : w25.cell? ⟨ae, 0, none⟩ = some (.string (⟨#[]⟩ : ByteArray)) := cT ak 0
     have fe := blk_frozen ak.out 0
     have dx := ag.out
     have dy := ai.out
     have dz := aq.out
     have dA := au.out
     have dB := ax.out
     have dC := ap.out
     have gq : w25.cell? ⟨ae, 1, none⟩ = some (.string (⟨#[]⟩ : ByteArray)) := cT ak 1
     have ff := blk_frozen ak.out 1
     have dD := ag.out
     have dE := ai.out
     have dF := aq.out
     have dG := au.out
     have dH := ax.out
     have dI := ap.out
     have gr : w25.cell? ⟨ae, 2, none⟩ = some (.string (⟨#[]⟩ : ByteArray)) := cT ak 2
     have fg := blk_frozen ak.out 2
     have dJ := ag.out
     have dK := ai.out
     have dL := aq.out
     have dM := au.out
     have dN := ax.out
     have dP := ap.out
     refine skip_ (w1 := ?_) (by rfl) rfl ?_ ?_
     rotate_left
     ·go_simp
      rfl
     refine hK.out _ _ ⟨((cell_far (p := ⟨ae, _, none⟩) ag.out _).trans (((cell_far (p := ⟨ae, _, none⟩) ag.out _).trans (((cell_far (p := ⟨ae, _, none⟩) ag.out _).trans (hHeld.1)))))), ((cell_far (p := ⟨ae, _, none⟩) ag.out _).trans (((cell_far (p := ⟨ae, _, none⟩) ag.out _).trans (((cell_far (p := ⟨ae, _, none⟩) ag.out _).trans (hHeld.2.1)))))), ((cell_far (p := ⟨ae, _, none⟩) ag.out _).trans (((cell_far (p := ⟨ae, _, none⟩) ag.out _).trans (((cell_far (p := ⟨ae, _, none⟩) ag.out _).trans (hHeld.2.2.1)))))), ((cell_far (p := ⟨ae, _, none⟩) ag.out _).trans (((cell_far (p := ⟨ae, _, none⟩) ag.out _).trans (((cell_far (p := ⟨ae, _, none⟩) ag.out _).trans (hHeld.2.2.2.1)))))), ((cell_far (p := ⟨ae, _, none⟩) ai.out _).trans (((cell_far (p := ⟨ae, _, none⟩) ai.out _).trans (((cell_far (p := ⟨ae, _, none⟩) ai.out _).trans (hHeld.2.2.2.2.1)))))), ((cell_far (p := ⟨ae, _, none⟩) ai.out _).trans (((cell_far (p := ⟨ae, _, none⟩) ai.out _).trans (((cell_far (p := ⟨ae, _, none⟩) ai.out _).trans (hHeld.2.2.2.2.2.1)))))), ((cell_far (p := ⟨ae, _, none⟩) ai.out _).trans (((cell_far (p := ⟨ae, _, none⟩) ai.out _).trans (((cell_far (p := ⟨ae, _, none⟩) ai.out _).trans (hHeld.2.2.2.2.2.2.1)))))), ((cell_far (p := ⟨ae, _, none⟩) ai.out _).trans (((cell_far (p := ⟨ae, _, none⟩) ai.out _).trans (((cell_far (p := ⟨ae, _, none⟩) ai.out _).trans (hHeld.2.2.2.2.2.2.2))))))⟩ (fun hHeld => ?_)
     clear hK K
     refine oT 17 (bA 18 262143) HT_.out fun K hK => ?_
     have gs : w25.cell? ⟨af, 0, none⟩ = some (.string (⟨#[]⟩ : ByteArray)) := cT al 0
     have fh := blk_frozen al.out 0
     have dQ := ah.out
     have dR := aj.out
     have dS := ap.out
     have dT := av.out
     have dU := ay.out
     have dV := aq.out
     have gt : w25.cell? ⟨af, 1, none⟩ = some (.string (⟨#[]⟩ : ByteArray)) := cT al 1
     have fi := blk_frozen al.out 1
     have dW := ah.out
     have dX := aj.out
     have dY := ap.out
     have dZ := av.out
     have d0 := ay.out
     have d1 := aq.out
     have gu : w25.cell? ⟨af, 2, none⟩ = some (.string (⟨#[]⟩ : ByteArray)) := cT al 2
     have fj := blk_frozen al.out 2
     have d2 := ah.out
     have d3 := aj.out
     have d4 := ap.out
     have d5 := av.out
     have d6 := ay.out
     have d7 := aq.out
     refine skip_ (w1 := ?_) (by rfl) rfl ?_ ?_
     rotate_left
     ·go_simp
      rfl
     refine hK.out _ _ ⟨((cell_far (p := ⟨af, _, none⟩) ah.out _).trans (((cell_far (p := ⟨af, _, none⟩) ah.out _).trans (((cell_far (p := ⟨af, _, none⟩) ah.out _).trans (hHeld.1)))))), ((cell_far (p := ⟨af, _, none⟩) ah.out _).trans (((cell_far (p := ⟨af, _, none⟩) ah.out _).trans (((cell_far (p := ⟨af, _, none⟩) ah.out _).trans (hHeld.2.1)))))), ((cell_far (p := ⟨af, _, none⟩) ah.out _).trans (((cell_far (p := ⟨af, _, none⟩) ah.out _).trans (((cell_far (p := ⟨af, _, none⟩) ah.out _).trans (hHeld.2.2.1)))))), ((cell_far (p := ⟨af, _, none⟩) ah.out _).trans (((cell_far (p := ⟨af, _, none⟩) ah.out _).trans (((cell_far (p := ⟨af, _, none⟩) ah.out _).trans (hHeld.2.2.2.1)))))), ((cell_far (p := ⟨af, _, none⟩) aj.out _).trans (((cell_far (p := ⟨af, _, none⟩) aj.out _).trans (((cell_far (p := ⟨af, _, none⟩) aj.out _).trans (hHeld.2.2.2.2.1)))))), ((cell_far (p := ⟨af, _, none⟩) aj.out _).trans (((cell_far (p := ⟨af, _, none⟩) aj.out _).trans (((cell_far (p := ⟨af, _, none⟩) aj.out _).trans (hHeld.2.2.2.2.2.1)))))), ((cell_far (p := ⟨af, _, none⟩) aj.out _).trans (((cell_far (p := ⟨af, _, none⟩) aj.out _).trans (((cell_far (p := ⟨af, _, none⟩) aj.out _).trans (hHeld.2.2.2.2.2.2.1)))))), ((cell_far (p := ⟨af, _, none⟩) aj.out _).trans (((cell_far (p := ⟨af, _, none⟩) aj.out _).trans (((cell_far (p := ⟨af, _, none⟩) aj.out _).trans (hHeld.2.2.2.2.2.2.2))))))⟩ (fun hHeld => ?_)
     clear hK K
     refine done_ (done_of HT_.out (by kernel_rfl)) ?_
     have fk := au.out
     have fl := ag.out
     have fm := ax.out
     have fn := ai.out
     have fo := ap.out
     have fp := aq.out
     have d8 : w25.cell? ⟨ae, 0, none⟩ = some (.string (⟨#[]⟩ : ByteArray)) := cT ak 0
     have d9 : w25.cell? ⟨ae, 1, none⟩ = some (.string (⟨#[]⟩ : ByteArray)) := cT ak 1
     have d_ : w25.cell? ⟨ae, 2, none⟩ = some (.string (⟨#[]⟩ : ByteArray)) := cT ak 2
     have ea := blk_frozen ak.out 0
     have eb := blk_frozen ak.out 1
     have ec := blk_frozen ak.out 2
     have fq := av.out
     have fr := ah.out
     have fs := ay.out
     have ft := aj.out
     have ed : w25.cell? ⟨af, 0, none⟩ = some (.string (⟨#[]⟩ : ByteArray)) := cT al 0
     have ee : w25.cell? ⟨af, 1, none⟩ = some (.string (⟨#[]⟩ : ByteArray)) := cT al 1
     have ef : w25.cell? ⟨af, 2, none⟩ = some (.string (⟨#[]⟩ : ByteArray)) := cT al 2
     have eg := blk_frozen al.out 0
     have eh := blk_frozen al.out 1
     have ei := blk_frozen al.out 2
     try go_wp2
     have n0_ : Aside0 (Kd.R Kd.string 9 ((((((w25.setCell ⟨ae, 0, none⟩ (.string aA)).setCell ⟨ae, 1, none⟩ (.string aB)).setCell ⟨ae, 2, none⟩ (.string aE)).setCell ⟨af, 0, none⟩ (.string az)).setCell ⟨af, 1, none⟩ (.string aC)).setCell ⟨af, 2, none⟩ (.string aF)) w.heap.size (fun k_ => some k_ ≠ (.slice aI aw.length aH : Value).ownBlock) (.slice Ao9 ar.length co9) ar) := ⟨by (with_reducible repeat (first | apply Kd.R_alloc | apply Kd.R_drewN | apply Kd.R_drew)); exact Kd.R_mono (Kd.R_far (p := ⟨af, 2, none⟩) (Kd.R_far (p := ⟨af, 1, none⟩) (Kd.R_far (p := ⟨af, 0, none⟩) (Kd.R_far (p := ⟨ae, 2, none⟩) (Kd.R_far (p := ⟨ae, 1, none⟩) (Kd.R_far (p := ⟨ae, 0, none⟩) (Kd.R_types (Kd.R_types ac.out ak.out (by decide)) al.out (by decide)) (fun _ hk => hk.1.2) (.string aA)) (fun _ hk => hk.1.2) (.string aB)) (fun _ hk => hk.1.2) (.string aE)) (fun _ hk => hk.2) (.string az)) (fun _ hk => hk.2) (.string aC)) (fun _ hk => hk.2) (.string aF)) (fun _ hk => hk.1.1)⟩
     have n1_ : Aside0 (Kd.R Kd.string 9 ((((((w25.setCell ⟨ae, 0, none⟩ (.string aA)).setCell ⟨ae, 1, none⟩ (.string aB)).setCell ⟨ae, 2, none⟩ (.string aE)).setCell ⟨af, 0, none⟩ (.string az)).setCell ⟨af, 1, none⟩ (.string aC)).setCell ⟨af, 2, none⟩ (.string aF)) w.heap.size (fun k_ => some k_ ≠ (.slice Ao9 ar.length co9 : Value).ownBlock) (.slice aI aw.length aH) aw) := ⟨by (with_reducible repeat (first | apply Kd.R_alloc | apply Kd.R_drewN | apply Kd.R_drew)); exact Kd.R_mono (Kd.R_far (p := ⟨af, 2, none⟩) (Kd.R_far (p := ⟨af, 1, none⟩) (Kd.R_far (p := ⟨af, 0, none⟩) (Kd.R_far (p := ⟨ae, 2, none⟩) (Kd.R_far (p := ⟨ae, 1, none⟩) (Kd.R_far (p := ⟨ae, 0, none⟩) (Kd.R_types (Kd.R_types ad.out ak.out (by decide)) al.out (by decide)) (fun _ hk => hk.1.2) (.string aA)) (fun _ hk => hk.1.2) (.string aB)) (fun _ hk => hk.1.2) (.string aE)) (fun _ hk => hk.2) (.string az)) (fun _ hk => hk.2) (.string aC)) (fun _ hk => hk.2) (.string aF)) (fun _ hk => hk.1.1)⟩
     have n2_ : Aside0 (((((((w25.setCell ⟨ae, 0, none⟩ (.string aA)).setCell ⟨ae, 1, none⟩ (.string aB)).setCell ⟨ae, 2, none⟩ (.string aE)).setCell ⟨af, 0, none⟩ (.string az)).setCell ⟨af, 1, none⟩ (.string aC)).setCell ⟨af, 2, none⟩ (.string aF)).heap[ao]? = some (.cells #[.string aA, .string aB, .string aE, .slice Ao9 ar.length co9] 71 (0, 0))) := ⟨by (with_reducible repeat (first | apply bn | apply bd | apply ba)); refine blk_far ?_ ah.out _; (with_reducible repeat (first | apply bn | apply bd | apply ba)); refine blk_far ?_ ah.out _; (with_reducible repeat (first | apply bn | apply bd | apply ba)); refine blk_far ?_ ah.out _; (with_reducible repeat (first | apply bn | apply bd | apply ba)); refine blk_far ?_ ag.out _; (with_reducible repeat (first | apply bn | apply bd | apply ba)); refine blk_far ?_ ag.out _; (with_reducible repeat (first | apply bn | apply bd | apply ba)); refine blk_far ?_ ag.out _; exact bT aa.out⟩
     have n3_ : Aside0 (((((((w25.setCell ⟨ae, 0, none⟩ (.string aA)).setCell ⟨ae, 1, none⟩ (.string aB)).setCell ⟨ae, 2, none⟩ (.string aE)).setCell ⟨af, 0, none⟩ (.string az)).setCell ⟨af, 1, none⟩ (.string aC)).setCell ⟨af, 2, none⟩ (.string aF)).heap[an]? = some (.cells #[.string az, .string aC, .string aF, .slice aI aw.length aH] 71 (0, 0))) := ⟨by (with_reducible repeat (first | apply bn | apply bd | apply ba)); refine blk_far ?_ aj.out _; (with_reducible repeat (first | apply bn | apply bd | apply ba)); refine blk_far ?_ aj.out _; (with_reducible repeat (first | apply bn | apply bd | apply ba)); refine blk_far ?_ aj.out _; (with_reducible repeat (first | apply bn | apply bd | apply ba)); refine blk_far ?_ ai.out _; (with_reducible repeat (first | apply bn | apply bd | apply ba)); refine blk_far ?_ ai.out _; (with_reducible repeat (first | apply bn | apply bd | apply ba)); refine blk_far ?_ ai.out _; exact bT ab.out⟩
     have n4_ : Aside0 (((((((w25.setCell ⟨ae, 0, none⟩ (.string aA)).setCell ⟨ae, 1, none⟩ (.string aB)).setCell ⟨ae, 2, none⟩ (.string aE)).setCell ⟨af, 0, none⟩ (.string az)).setCell ⟨af, 1, none⟩ (.string aC)).setCell ⟨af, 2, none⟩ (.string aF)).heap[ae]? = some (.cells #[.string aA, .string aB, .string aE] 76 (0, 0))) := ⟨by (with_reducible repeat (first | apply bn | apply bd | apply ba)); refine blk_far ?_ ap.out _; (with_reducible repeat (first | apply bn | apply bd | apply ba)); refine blk_far ?_ ap.out _; (with_reducible repeat (first | apply bn | apply bd | apply ba)); refine blk_far ?_ ap.out _; (with_reducible repeat (first | apply bn | apply bd | apply ba)); refine blk_put (cs := #[.string aA, .string aB, .string (⟨#[]⟩ : ByteArray)]) ?_ 2 _ rfl; (with_reducible repeat (first | apply bn | apply bd | apply ba)); refine blk_put (cs := #[.string aA, .string (⟨#[]⟩ : ByteArray), .string (⟨#[]⟩ : ByteArray)]) ?_ 1 _ rfl; (with_reducible repeat (first | apply bn | apply bd | apply ba)); refine blk_put (cs := #[.string (⟨#[]⟩ : ByteArray), .string (⟨#[]⟩ : ByteArray), .string (⟨#[]⟩ : ByteArray)]) ?_ 0 _ rfl; exact bT ak.out⟩
     have n5_ : Aside0 (((((((w25.setCell ⟨ae, 0, none⟩ (.string aA)).setCell ⟨ae, 1, none⟩ (.string aB)).setCell ⟨ae, 2, none⟩ (.string aE)).setCell ⟨af, 0, none⟩ (.string az)).setCell ⟨af, 1, none⟩ (.string aC)).setCell ⟨af, 2, none⟩ (.string aF)).heap[af]? = some (.cells #[.string az, .string aC, .string aF] 76 (0, 0))) := ⟨by (with_reducible repeat (first | apply bn | apply bd | apply ba)); refine blk_put (cs := #[.string az, .string aC, .string (⟨#[]⟩ : ByteArray)]) ?_ 2 _ rfl; (with_reducible repeat (first | apply bn | apply bd | apply ba)); refine blk_put (cs := #[.string az, .string (⟨#[]⟩ : ByteArray), .string (⟨#[]⟩ : ByteArray)]) ?_ 1 _ rfl; (with_reducible repeat (first | apply bn | apply bd | apply ba)); refine blk_put (cs := #[.string (⟨#[]⟩ : ByteArray), .string (⟨#[]⟩ : ByteArray), .string (⟨#[]⟩ : ByteArray)]) ?_ 0 _ rfl; (with_reducible repeat (first | apply bn | apply bd | apply ba)); refine blk_far ?_ aq.out _; (with_reducible repeat (first | apply bn | apply bd | apply ba)); refine blk_far ?_ aq.out _; (with_reducible repeat (first | apply bn | apply bd | apply ba)); refine blk_far ?_ aq.out _; exact bT al.out⟩
     have n6_ : Aside0 (Below w.heap.size w ((((((w25.setCell ⟨ae, 0, none⟩ (.string aA)).setCell ⟨ae, 1, none⟩ (.string aB)).setCell ⟨ae, 2, none⟩ (.string aE)).setCell ⟨af, 0, none⟩ (.string az)).setCell ⟨af, 1, none⟩ (.string aC)).setCell ⟨af, 2, none⟩ (.string aF))) := ⟨by repeat (first | (with_reducible first | exact HB.out | apply pA | apply pN | apply pD | refine eU ?_ (by assumption)) | exact HB.out)⟩
     (try clear ac)
     (try clear ad)
     (try clear aa)
     (try clear ab)
     (try clear ak)
     (try clear al)
     (try clear HB)
     generalize ((((((w25.setCell ⟨ae, 0, none⟩ (.string aA)).setCell ⟨ae, 1, none⟩ (.string aB)).setCell ⟨ae, 2, none⟩ (.string aE)).setCell ⟨af, 0, none⟩ (.string az)).setCell ⟨af, 1, none⟩ (.string aC)).setCell ⟨af, 2, none⟩ (.string aF)) = w39 at n0_ n1_ n2_ n3_ n4_ n5_ n6_ ⊢
     have ac := n0_
     have ad := n1_
     have aa := n2_
     have ab := n3_
     have ak := n4_
     have al := n5_
     have HB := n6_
     clear n0_ n1_ n2_ n3_ n4_ n5_ n6_
     replace ac := am (Kd.R_drew ac.out)
     replace ad := am (Kd.R_drew ad.out)
     replace aa := am (blk_drew aa.out)
     replace ab := am (blk_drew ab.out)
     replace ak := am (blk_drew ak.out)
     replace al := am (blk_drew al.out)
     replace HB := am (below_drew1 HB.out)
     refine start_ (n := 19) (S := fun w' => w'.cell? ⟨ae, 0, none⟩ = some (.string aA) ∧ w'.cell? ⟨ae, 1, none⟩ = some (.string aB) ∧ w'.cell? ⟨ae, 2, none⟩ = some (.string aE) ∧ w'.cell? ⟨af, 0, none⟩ = some (.string az) ∧ w'.cell? ⟨af, 1, none⟩ = some (.string aC) ∧ w'.cell? ⟨af, 2, none⟩ = some (.string aF)) (ds := []) (bA 19 0) (by kernel_rfl) rfl (by kernel_rfl) ⟨cT ak 0, cT ak 1, cT ak 2, cT al 0, cT al 1, cT al 2⟩ (fun hHeld => ?_); refine with_tabW version_Cmp.tab7 version_Cmp.bits7 (fun HT_ HW_ => ?_)
     generalize w39.drew = w40 at ac ad aa ab ak al HB hHeld ⊢
     refine pT 0 47 (bA 19 1) HT_.out ?_
     refine pT 2 49 (bA 19 5) HT_.out ?_
     refine pT 5 52 (bA 19 37) HT_.out ?_
     refine pT 7 54 (bA 19 165) HT_.out ?_
     refine pT 10 57 (bA 19 1189) HT_.out ?_
     refine pT 12 59 (bA 19 5285) HT_.out ?_
     refine tT 1 48 (bA 19 5287) HT_.out HW_.out hHeld ?_ (hy := by rintro w' ⟨s0, s1, s2, s3, s4, s5⟩; go_simp; with_reducible rfl)
     refine tT 3 50 (bA 19 5295) HT_.out HW_.out hHeld ?_ (hy := by rintro w' ⟨s0, s1, s2, s3, s4, s5⟩; go_simp; with_reducible rfl)
     refine tT 6 53 (bA 19 5359) HT_.out HW_.out hHeld ?_ (hy := by rintro w' ⟨s0, s1, s2, s3, s4, s5⟩; go_simp; with_reducible rfl)
     refine tT 8 55 (bA 19 5615) HT_.out HW_.out hHeld ?_ (hy := by rintro w' ⟨s0, s1, s2, s3, s4, s5⟩; go_simp; with_reducible rfl)
     refine tT 11 58 (bA 19 7663) HT_.out HW_.out hHeld ?_ (hy := by rintro w' ⟨s0, s1, s2, s3, s4, s5⟩; go_simp; with_reducible rfl)
     refine tT 13 60 (bA 19 15855) HT_.out HW_.out hHeld ?_ (hy := by rintro w' ⟨s0, s1, s2, s3, s4, s5⟩; go_simp; with_reducible rfl)
     refine oT 4 (bA 19 15871) HT_.out fun K hK => ?_
     refine gS Tryd.func49 #[.string aA, .string az] ?_
     with_reducible refine (version_numbers.calls kj4 aA az a6 _ A18.out).mono ?_
     rintro e w41 ⟨rfl, hb⟩
     refine ⟨_, rfl, ?_⟩
     replace ac := am (rB ac.out hb)
     replace ad := am (rB ad.out hb)
     replace aa := am (bB aa.out hb)
     replace ab := am (bB ab.out hb)
     replace ak := am (bB ak.out hb)
     replace al := am (bB al.out hb)
     replace HB := am (sT HB.out hb)
     (try clear hb)
     (try clear hb2)
     (try clear hk)
     (try clear hi)
     refine hK.out _ _ ⟨cT ak 0, cT ak 1, cT ak 2, cT al 0, cT al 1, cT al 2⟩ (fun hHeld => ?_)
     clear hK K
     refine mN 51 ?_
     refine oT 9 (bA 19 16383) HT_.out fun K hK => ?_
     refine gS Tryd.func49 #[.string aB, .string aC] ?_
     with_reducible refine (version_numbers.calls kj4 aB aC aW _ A19.out).mono ?_
     rintro e w42 ⟨rfl, hb⟩
     refine ⟨_, rfl, ?_⟩
     replace ac := am (rB ac.out hb)
     replace ad := am (rB ad.out hb)
     replace aa := am (bB aa.out hb)
     replace ab := am (bB ab.out hb)
     replace ak := am (bB ak.out hb)
     replace al := am (bB al.out hb)
     replace HB := am (sT HB.out hb)
     (try clear hb)
     (try clear hb2)
     (try clear hk)
     (try clear hi)
     refine hK.out _ _ ⟨cT ak 0, cT ak 1, cT ak 2, cT al 0, cT al 1, cT al 2⟩ (fun hHeld => ?_)
     clear hK K
     refine mN 56 ?_
     refine oT 14 (bA 19 32767) HT_.out fun K hK => ?_
     refine gS Tryd.func49 #[.string aE, .string aF] ?_
     with_reducible refine (version_numbers.calls kj4 aE aF aV _ A20.out).mono ?_
     rintro e w43 ⟨rfl, hb⟩
     refine ⟨_, rfl, ?_⟩
     replace ac := am (rB ac.out hb)
     replace ad := am (rB ad.out hb)
     replace aa := am (bB aa.out hb)
     replace ab := am (bB ab.out hb)
     replace ak := am (bB ak.out hb)
     replace al := am (bB al.out hb)
     replace HB := am (sT HB.out hb)
     (try clear hb)
     (try clear hb2)
     (try clear hk)
     (try clear hi)
     refine hK.out _ _ ⟨cT ak 0, cT ak 1, cT ak 2, cT al 0, cT al 1, cT al 2⟩ (fun hHeld => ?_)
     clear hK K
     refine mN 61 ?_
     refine oT 15 (bA 19 65535) HT_.out fun K hK => ?_
     refine Kd.R_lit_step (Kd.int .i64) _ 3 ?hg (N := 62) ?hd (xs := ([a6, aW, aV] : List Int)) (inner := [.int .i64 a6, .int .i64 aW, .int .i64 aV]) (ok := fun _ => True) (okp := fun _ => True) ?hr ?hp (fun _ hk => hk) trivial (Below.refl _ _) (Nat.le_refl _) (by simp) ?_; (case hd => rfl); (case hg => rfl); (case hr => first | (go_simp; done) | (go_simp; rfl)); (case hp => exact (Reps.one (show Kd.M (Kd.int .i64) _ _ _ a6 [.int .i64 a6] from rfl) (Reps.one (show Kd.M (Kd.int .i64) _ _ _ aW [.int .i64 aW] from rfl) (Reps.one (show Kd.M (Kd.int .i64) _ _ _ aV [.int .i64 aV] from rfl) (Reps.none _ _)))))
     intro gv w44 ho45 hb hg_ hnew_
     clear hg_ hnew_
     (first | rw [← Ny228.out] at ho45 | (simp only [Int.reduceToNat] at ho45; rw [← Ny228.out] at ho45))
     replace ac := am (rB ac.out hb)
     replace ad := am (rB ad.out hb)
     have b0 := am (Kd.R_lower ho45 (below_size (eT HB.out)))
     replace aa := am (bB aa.out hb)
     replace ab := am (bB ab.out hb)
     replace ak := am (bB ak.out hb)
     replace al := am (bB al.out hb)
     replace HB := am (sT HB.out hb)
     clear hb ho45
     obtain ⟨eW, eX, c3⟩ := Kd.R_slice b0.out
     (first | subst c3 | (injection c3 with f1_ f2_ f3_; have f4_ := f1_.symm; have f5_ := f3_.symm; clear f1_ f2_ f3_; subst f4_; subst f5_))
     refine hK.out _ _ ⟨cT ak 0, cT ak 1, cT ak 2, cT al 0, cT al 1, cT al 2⟩ (fun hHeld => ?_)
     clear hK K
     refine mN 62 ?_
     refine oT 16 (bA 19 131071) HT_.out fun K hK => ?_
     refine gS Tryd.func43 #[.slice eW cU.length eX] ?_
     with_reducible refine (cmp_Or_int.calls kj4 _ _ cU aX _ ?side1 ?side2 A21.out).mono ?_
     (case side1 => repeat (first | exact (Kd.R_reads' b0.out).2.2 | (with_reducible refine Kd.C_alloc ?_ _) | (with_reducible refine Kd.C_drewN ?_ _) | (with_reducible refine Kd.C_drew ?_)))
     (case side2 => exact (Kd.R_reads' b0.out).2.1)
     rintro e w' ⟨rfl, ⟨nd, rfl⟩⟩
     refine ⟨_, rfl, ?_⟩
     refine hK.out _ _ ⟨cT ak 0, cT ak 1, cT ak 2, cT al 0, cT al 1, cT al 2⟩ (fun hHeld => ?_)
     clear hK K
     refine mN 63 ?_
     refine pT 17 4 (bA 19 262143) HT_.out ?_
     refine pT 18 5 (bA 19 524287) HT_.out ?_
     refine done_ (done_of HT_.out (by kernel_rfl)) ?_
     try go_wp2
     go_ret2
     exact ⟨by first | rfl | (simp [errW_none, errW_some] <;> rfl) | (simp [*, errW_none, errW_some] <;> rfl), eT HB.out⟩
    ·rw [if_neg c17] at H
     have bZ : (!(aA.toList == az.toList) || (!(aB.toList == aC.toList) || (!(aE.toList == aF.toList)))) = false := by simpa using c17
     clear c17
     have cV := Aside0.mk H
     clear H
     try go_wp2
     replace ac := am (Kd.R_drew ac.out)
     replace ad := am (Kd.R_drew ad.out)
     replace aa := am (blk_drew aa.out)
     replace ab := am (blk_drew ab.out)
     replace HB := am (below_drew1 HB.out)
     refine start_ (n := 18) (S := fun w' => w'.cell? ⟨ao, 0, none⟩ = some (.string aA) ∧ w'.cell? ⟨ao, 1, none⟩ = some (.string aB) ∧ w'.cell? ⟨ao, 2, none⟩ = some (.string aE) ∧ w'.cell? ⟨ao, 3, none⟩ = some (.slice Ao9 ar.length co9) ∧ w'.cell? ⟨an, 0, none⟩ = some (.string az) ∧ w'.cell? ⟨an, 1, none⟩ = some (.string aC) ∧ w'.cell? ⟨an, 2, none⟩ = some (.string aF) ∧ w'.cell? ⟨an, 3, none⟩ = some (.slice aI aw.length aH)) (ds := []) (bA 18 0) (by kernel_rfl) rfl (by kernel_rfl) ⟨cT aa 0, cT aa 1, cT aa 2, cT aa 3, cT ab 0, cT ab 1, cT ab 2, cT ab 3⟩ (fun hHeld => ?_); refine with_tabW version_Cmp.tab5 version_Cmp.bits5 (fun HT_ HW_ => ?_)
     generalize wc.drew = w48 at ac ad aa ab HB hHeld ⊢
     refine pT 0 30 (bA 18 1) HT_.out ?_
     refine pT 2 32 (bA 18 5) HT_.out ?_
     refine pT 4 34 (bA 18 21) HT_.out ?_
     refine pT 7 37 (bA 18 149) HT_.out ?_
     refine pT 9 39 (bA 18 661) HT_.out ?_
     refine pT 11 41 (bA 18 2709) HT_.out ?_
     refine tT 1 31 (bA 18 2711) HT_.out HW_.out hHeld ?_ (hy := by rintro w' ⟨s0, s1, s2, s3, s4, s5, s6, s7⟩; go_simp; with_reducible rfl)
     refine tT 3 33 (bA 18 2719) HT_.out HW_.out hHeld ?_ (hy := by rintro w' ⟨s0, s1, s2, s3, s4, s5, s6, s7⟩; go_simp; with_reducible rfl)
     refine tT 5 35 (bA 18 2751) HT_.out HW_.out hHeld ?_ (hy := by rintro w' ⟨s0, s1, s2, s3, s4, s5, s6, s7⟩; go_simp; with_reducible rfl)
     refine pT 6 36 (bA 18 2815) HT_.out ?_
     refine tT 8 38 (bA 18 3071) HT_.out HW_.out hHeld ?_ (hy := by rintro w' ⟨s0, s1, s2, s3, s4, s5, s6, s7⟩; go_simp; with_reducible rfl)
     refine tT 10 40 (bA 18 4095) HT_.out HW_.out hHeld ?_ (hy := by rintro w' ⟨s0, s1, s2, s3, s4, s5, s6, s7⟩; go_simp; with_reducible rfl)
     refine tT 12 42 (bA 18 8191) HT_.out HW_.out hHeld ?_ (hy := by rintro w' ⟨s0, s1, s2, s3, s4, s5, s6, s7⟩; go_simp; with_reducible rfl)
     refine pT 13 43 (bA 18 16383) HT_.out ?_
     refine join_ (σ := Nat × Nat) 2 (bA 18 65535) (fun s_ => [(10, .pointer (some ⟨s_.1, 0, none⟩)), (11, .pointer (some ⟨s_.2, 0, none⟩))]) (fun s_ w' => (w'.cell? ⟨ao, 0, none⟩ = some (.string aA) ∧ w'.cell? ⟨ao, 1, none⟩ = some (.string aB) ∧ w'.cell? ⟨ao, 2, none⟩ = some (.string aE) ∧ w'.cell? ⟨ao, 3, none⟩ = some (.slice Ao9 ar.length co9) ∧ w'.cell? ⟨an, 0, none⟩ = some (.string az) ∧ w'.cell? ⟨an, 1, none⟩ = some (.string aC) ∧ w'.cell? ⟨an, 2, none⟩ = some (.string aF) ∧ w'.cell? ⟨an, 3, none⟩ = some (.slice aI aw.length aH)) ∧ (Kd.R Kd.string 9 w' w.heap.size (fun k_ => some k_ ≠ (.slice aI aw.length aH : Value).ownBlock) (.slice Ao9 ar.length co9) ar) ∧ (Kd.R Kd.string 9 w' w.heap.size (fun k_ => some k_ ≠ (.slice Ao9 ar.length co9 : Value).ownBlock) (.slice aI aw.length aH) aw) ∧ (w'.heap[ao]? = some (.cells #[.string aA, .string aB, .string aE, .slice Ao9 ar.length co9] 71 (0, 0))) ∧ (w'.heap[an]? = some (.cells #[.string az, .string aC, .string aF, .slice aI aw.length aH] 71 (0, 0))) ∧ (w'.heap[s_.1]? = some (.cells #[.string (⟨#[]⟩ : ByteArray), .string (⟨#[]⟩ : ByteArray), .string (⟨#[]⟩ : ByteArray)] 76 (0, 0))) ∧ (w'.heap[s_.2]? = some (.cells #[.string (⟨#[]⟩ : ByteArray), .string (⟨#[]⟩ : ByteArray), .string (⟨#[]⟩ : ByteArray)] 76 (0, 0))) ∧ (w.heap.size ≤ s_.1) ∧ (w.heap.size ≤ s_.1) ∧ (ao ≠ s_.1) ∧ (s_.1 ≠ ao) ∧ (an ≠ s_.1) ∧ (s_.1 ≠ an) ∧ (s_.2 ≠ s_.1) ∧ (s_.1 ≠ s_.2) ∧ (w.heap.size ≤ s_.2) ∧ (w.heap.size ≤ s_.2) ∧ (ao ≠ s_.2) ∧ (s_.2 ≠ ao) ∧ (an ≠ s_.2) ∧ (s_.2 ≠ an) ∧ (Below w.heap.size w w')) ?_ ?_
     rotate_left
     ·intro hCont
      refine two_ (i := 14) (j := 15) (Ni := some 10) (Nj := some 11) (bA 18 32767) (bA 18 49151) rfl rfl rfl rfl (two_of HT_.out (by kernel_rfl)) (by decide) (by decide) (fun K hK => ?_) (fun K hK => ?_)
      ·skip
       refine box_step ?hg (N := 10) ?hd (cs := #[.string (⟨#[]⟩ : ByteArray), .string (⟨#[]⟩ : ByteArray), .string (⟨#[]⟩ : ByteArray)]) (t := 76) ?hr ?_; (case hd => rfl); (case hg => rfl); (case hr => first | (go_simp; done) | (go_simp; rfl))
       intro ae hg w49 hbox hb
       replace ac := am (rB ac.out hb)
       replace ad := am (rB ad.out hb)
       have ak := am (hbox)
       have aY := am ((gT hg HB.out))
       have aZ := am ((gT hg HB.out))
       have ag := am ((nT aa.out hg))
       have au := am ((mT aa.out hg))
       have ai := am ((nT ab.out hg))
       have ax := am ((mT ab.out hg))
       replace aa := am (bB aa.out hb)
       replace ab := am (bB ab.out hb)
       replace HB := am (sT HB.out hb)
       clear hb hbox hg
       refine hK.out _ _ ⟨cT aa 0, cT aa 1, cT aa 2, cT aa 3, cT ab 0, cT ab 1, cT ab 2, cT ab 3⟩ (fun hHeld => ?_)
       clear hK K
       refine mN 10 ?_
       refine oT 15 (bA 18 65535) HT_.out fun K hK => ?_
       refine box_step ?hg (N := 11) ?hd (cs := #[.string (⟨#[]⟩ : ByteArray), .string (⟨#[]⟩ : ByteArray), .string (⟨#[]⟩ : ByteArray)]) (t := 76) ?hr ?_; (case hd => rfl); (case hg => rfl); (case hr => first | (go_simp; done) | (go_simp; rfl))
       intro af hg w50 hbox hb
       replace ac := am (rB ac.out hb)
       replace ad := am (rB ad.out hb)
       have al := am (hbox)
       have a2 := am ((gT hg HB.out))
       have a3 := am ((gT hg HB.out))
       have ah := am ((nT aa.out hg))
       have av := am ((mT aa.out hg))
       have aj := am ((nT ab.out hg))
       have ay := am ((mT ab.out hg))
       have ap := am ((nT ak.out hg))
       have aq := am ((mT ak.out hg))
       replace aa := am (bB aa.out hb)
       replace ab := am (bB ab.out hb)
       replace ak := am (bB ak.out hb)
       replace HB := am (sT HB.out hb)
       clear hb hbox hg
       refine hK.out _ _ ⟨cT aa 0, cT aa 1, cT aa 2, cT aa 3, cT ab 0, cT ab 1, cT ab 2, cT ab 3⟩ (fun hHeld => ?_)
       clear hK K
       refine mN 11 ?_
       exact norm_ (by simp only [putAll, Act.put, List.setIfInBounds_toArray, List.set_cons_zero, List.set_cons_succ]) (hCont (ae, af) _ ⟨hHeld, (rT ac.out), (rT ad.out), (bT aa.out), (bT ab.out), (bT ak.out), (bT al.out), aY.out, aZ.out, ag.out, au.out, ai.out, ax.out, aq.out, ap.out, a2.out, a3.out, ah.out, av.out, aj.out, ay.out, (eT HB.out)⟩)
      ·skip
       refine box_step ?hg (N := 11) ?hd (cs := #[.string (⟨#[]⟩ : ByteArray), .string (⟨#[]⟩ : ByteArray), .string (⟨#[]⟩ : ByteArray)]) (t := 76) ?hr ?_; (case hd => rfl); (case hg => rfl); (case hr => first | (go_simp; done) | (go_simp; rfl))
       intro af hg w49 hbox hb
       replace ac := am (rB ac.out hb)
       replace ad := am (rB ad.out hb)
       have al := am (hbox)
       have a2 := am ((gT hg HB.out))
       have a3 := am ((gT hg HB.out))
       have ah := am ((nT aa.out hg))
       have av := am ((mT aa.out hg))
       have aj := am ((nT ab.out hg))
       have ay := am ((mT ab.out hg))
       replace aa := am (bB aa.out hb)
       replace ab := am (bB ab.out hb)
       replace HB := am (sT HB.out hb)
       clear hb hbox hg
       refine hK.out _ _ ⟨cT aa 0, cT aa 1, cT aa 2, cT aa 3, cT ab 0, cT ab 1, cT ab 2, cT ab 3⟩ (fun hHeld => ?_)
       clear hK K
       refine mN 11 ?_
       refine oT 14 (bA 18 65535) HT_.out fun K hK => ?_
       refine box_step ?hg (N := 10) ?hd (cs := #[.string (⟨#[]⟩ : ByteArray), .string (⟨#[]⟩ : ByteArray), .string (⟨#[]⟩ : ByteArray)]) (t := 76) ?hr ?_; (case hd => rfl); (case hg => rfl); (case hr => first | (go_simp; done) | (go_simp; rfl))
       intro ae hg w50 hbox hb
       replace ac := am (rB ac.out hb)
       replace ad := am (rB ad.out hb)
       have ak := am (hbox)
       have aY := am ((gT hg HB.out))
       have aZ := am ((gT hg HB.out))
       have ag := am ((nT aa.out hg))
       have au := am ((mT aa.out hg))
       have ai := am ((nT ab.out hg))
       have ax := am ((mT ab.out hg))
       have aq := am ((nT al.out hg))
       have ap := am ((mT al.out hg))
       replace aa := am (bB aa.out hb)
       replace ab := am (bB ab.out hb)
       replace al := am (bB al.out hb)
       replace HB := am (sT HB.out hb)
       clear hb hbox hg
       refine hK.out _ _ ⟨cT aa 0, cT aa 1, cT aa 2, cT aa 3, cT ab 0, cT ab 1, cT ab 2, cT ab 3⟩ (fun hHeld => ?_)
       clear hK K
       refine mN 10 ?_
       exact norm_ (by simp only [putAll, Act.put, List.setIfInBounds_toArray, List.set_cons_zero, List.set_cons_succ]) (hCont (ae, af) _ ⟨hHeld, (rT ac.out), (rT ad.out), (bT aa.out), (bT ab.out), (bT ak.out), (bT al.out), aY.out, aZ.out, ag.out, au.out, ai.out, ax.out, aq.out, ap.out, a2.out, a3.out, ah.out, av.out, aj.out, ay.out, (eT HB.out)⟩)
     rintro ⟨ae, af⟩ w51 ⟨hS_, h0_, h1_, h2_, h3_, h4_, h5_, h6_, h7_, h8_, h9_, h10_, h11_, h12_, h13_, h14_, h15_, h16_, h17_, h18_, h19_, h20_⟩
     replace ac : Aside0 (Kd.R Kd.string 9 w51 w.heap.size (fun k_ => some k_ ≠ (.slice aI aw.length aH : Value).ownBlock) (.slice Ao9 ar.length co9) ar) := ⟨h0_⟩
     replace ad : Aside0 (Kd.R Kd.string 9 w51 w.heap.size (fun k_ => some k_ ≠ (.slice Ao9 ar.length co9 : Value).ownBlock) (.slice aI aw.length aH) aw) := ⟨h1_⟩
     replace aa : Aside0 (w51.heap[ao]? = some (.cells #[.string aA, .string aB, .string aE, .slice Ao9 ar.length co9] 71 (0, 0))) := ⟨h2_⟩
     replace ab : Aside0 (w51.heap[an]? = some (.cells #[.string az, .string aC, .string aF, .slice aI aw.length aH] 71 (0, 0))) := ⟨h3_⟩
     have ak : Aside0 (w51.heap[ae]? = some (.cells #[.string (⟨#[]⟩ : ByteArray), .string (⟨#[]⟩ : ByteArray), .string (⟨#[]⟩ : ByteArray)] 76 (0, 0))) := ⟨h4_⟩
     have al : Aside0 (w51.heap[af]? = some (.cells #[.string (⟨#[]⟩ : ByteArray), .string (⟨#[]⟩ : ByteArray), .string (⟨#[]⟩ : ByteArray)] 76 (0, 0))) := ⟨h5_⟩
     have aY : Aside0 (w.heap.size ≤ ae) := ⟨h6_⟩
     have aZ : Aside0 (w.heap.size ≤ ae) := ⟨h7_⟩
     have ag : Aside0 (ao ≠ ae) := ⟨h8_⟩
     have au : Aside0 (ae ≠ ao) := ⟨h9_⟩
     have ai : Aside0 (an ≠ ae) := ⟨h10_⟩
     have ax : Aside0 (ae ≠ an) := ⟨h11_⟩
     have aq : Aside0 (af ≠ ae) := ⟨h12_⟩
     have ap : Aside0 (ae ≠ af) := ⟨h13_⟩
     have a2 : Aside0 (w.heap.size ≤ af) := ⟨h14_⟩
     have a3 : Aside0 (w.heap.size ≤ af) := ⟨h15_⟩
     have ah : Aside0 (ao ≠ af) := ⟨h16_⟩
     have av : Aside0 (af ≠ ao) := ⟨h17_⟩
     have aj : Aside0 (an ≠ af) := ⟨h18_⟩
     have ay : Aside0 (af ≠ an) := ⟨h19_⟩
     replace HB : Aside0 (Below w.heap.size w w51) := ⟨h20_⟩
     clear h0_ h1_ h2_ h3_ h4_ h5_ h6_ h7_ h8_ h9_ h10_ h11_ h12_ h13_ h14_ h15_ h16_ h17_ h18_ h19_ h20_
     have hHeld := hS_
     (try dsimp only at hHeld)
     refine rN ?_
     refine oT 16 (bA 18 131071) HT_.out fun K hK => ?_
     have gw : w51.cell? ⟨ae, 0, none⟩ = some (.string (⟨#[]⟩ : ByteArray)) := cT ak 0
     have fu := blk_frozen ak.out 0
     have ej := ag.out
     have ek := ai.out
     have el := aq.out
     have em := au.out
     have en := ax.out
     have eo := ap.out
     have gx : w51.cell? ⟨ae, 1, none⟩ = some (.string (⟨#[]⟩ : ByteArray)) := cT ak 1
     have fv := blk_frozen ak.out 1
     have ep := ag.out
     have eq := ai.out
     have er := aq.out
     have es := au.out
     have et := ax.out
     have eu := ap.out
     have gy : w51.cell? ⟨ae, 2, none⟩ = some (.string (⟨#[]⟩ : ByteArray)) := cT ak 2
     have fw := blk_frozen ak.out 2
     have ev := ag.out
     have ew := ai.out
     have ex := aq.out
     have ey := au.out
     have ez := ax.out
     have eA := ap.out
     refine skip_ (w1 := ?_) (by rfl) rfl ?_ ?_
     rotate_left
     ·go_simp
      rfl
     refine hK.out _ _ ⟨((cell_far (p := ⟨ae, _, none⟩) ag.out _).trans (((cell_far (p := ⟨ae, _, none⟩) ag.out _).trans (((cell_far (p := ⟨ae, _, none⟩) ag.out _).trans (hHeld.1)))))), ((cell_far (p := ⟨ae, _, none⟩) ag.out _).trans (((cell_far (p := ⟨ae, _, none⟩) ag.out _).trans (((cell_far (p := ⟨ae, _, none⟩) ag.out _).trans (hHeld.2.1)))))), ((cell_far (p := ⟨ae, _, none⟩) ag.out _).trans (((cell_far (p := ⟨ae, _, none⟩) ag.out _).trans (((cell_far (p := ⟨ae, _, none⟩) ag.out _).trans (hHeld.2.2.1)))))), ((cell_far (p := ⟨ae, _, none⟩) ag.out _).trans (((cell_far (p := ⟨ae, _, none⟩) ag.out _).trans (((cell_far (p := ⟨ae, _, none⟩) ag.out _).trans (hHeld.2.2.2.1)))))), ((cell_far (p := ⟨ae, _, none⟩) ai.out _).trans (((cell_far (p := ⟨ae, _, none⟩) ai.out _).trans (((cell_far (p := ⟨ae, _, none⟩) ai.out _).trans (hHeld.2.2.2.2.1)))))), ((cell_far (p := ⟨ae, _, none⟩) ai.out _).trans (((cell_far (p := ⟨ae, _, none⟩) ai.out _).trans (((cell_far (p := ⟨ae, _, none⟩) ai.out _).trans (hHeld.2.2.2.2.2.1)))))), ((cell_far (p := ⟨ae, _, none⟩) ai.out _).trans (((cell_far (p := ⟨ae, _, none⟩) ai.out _).trans (((cell_far (p := ⟨ae, _, none⟩) ai.out _).trans (hHeld.2.2.2.2.2.2.1)))))), ((cell_far (p := ⟨ae, _, none⟩) ai.out _).trans (((cell_far (p := ⟨ae, _, none⟩) ai.out _).trans (((cell_far (p := ⟨ae, _, none⟩) ai.out _).trans (hHeld.2.2.2.2.2.2.2))))))⟩ (fun hHeld => ?_)
     clear hK K
     refine oT 17 (bA 18 262143) HT_.out fun K hK => ?_
     have gz : w51.cell? ⟨af, 0, none⟩ = some (.string (⟨#[]⟩ : ByteArray)) := cT al 0
     have fx := blk_frozen al.out 0
     have eB := ah.out
     have eC := aj.out
     have eD := ap.out
     have eE := av.out
     have eF := ay.out
     have eG := aq.out
     have gA : w51.cell? ⟨af, 1, none⟩ = some (.string (⟨#[]⟩ : ByteArray)) := cT al 1
     have fy := blk_frozen al.out 1
     have eH := ah.out
     have eI := aj.out
     have eJ := ap.out
     have eK := av.out
     have eL := ay.out
     have eM := aq.out
     have gB : w51.cell? ⟨af, 2, none⟩ = some (.string (⟨#[]⟩ : ByteArray)) := cT al 2
     have fz := blk_frozen al.out 2
     have eN := ah.out
     have eO := aj.out
     have eP := ap.out
     have eQ := av.out
     have eR := ay.out
     have eS := aq.out
     refine skip_ (w1 := ?_) (by rfl) rfl ?_ ?_
     rotate_left
     ·go_simp
      rfl
     refine hK.out _ _ ⟨((cell_far (p := ⟨af, _, none⟩) ah.out _).trans (((cell_far (p := ⟨af, _, none⟩) ah.out _).trans (((cell_far (p := ⟨af, _, none⟩) ah.out _).trans (hHeld.1)))))), ((cell_far (p := ⟨af, _, none⟩) ah.out _).trans (((cell_far (p := ⟨af, _, none⟩) ah.out _).trans (((cell_far (p := ⟨af, _, none⟩) ah.out _).trans (hHeld.2.1)))))), ((cell_far (p := ⟨af, _, none⟩) ah.out _).trans (((cell_far (p := ⟨af, _, none⟩) ah.out _).trans (((cell_far (p := ⟨af, _, none⟩) ah.out _).trans (hHeld.2.2.1)))))), ((cell_far (p := ⟨af, _, none⟩) ah.out _).trans (((cell_far (p := ⟨af, _, none⟩) ah.out _).trans (((cell_far (p := ⟨af, _, none⟩) ah.out _).trans (hHeld.2.2.2.1)))))), ((cell_far (p := ⟨af, _, none⟩) aj.out _).trans (((cell_far (p := ⟨af, _, none⟩) aj.out _).trans (((cell_far (p := ⟨af, _, none⟩) aj.out _).trans (hHeld.2.2.2.2.1)))))), ((cell_far (p := ⟨af, _, none⟩) aj.out _).trans (((cell_far (p := ⟨af, _, none⟩) aj.out _).trans (((cell_far (p := ⟨af, _, none⟩) aj.out _).trans (hHeld.2.2.2.2.2.1)))))), ((cell_far (p := ⟨af, _, none⟩) aj.out _).trans (((cell_far (p := ⟨af, _, none⟩) aj.out _).trans (((cell_far (p := ⟨af, _, none⟩) aj.out _).trans (hHeld.2.2.2.2.2.2.1)))))), ((cell_far (p := ⟨af, _, none⟩) aj.out _).trans (((cell_far (p := ⟨af, _, none⟩) aj.out _).trans (((cell_far (p := ⟨af, _, none⟩) aj.out _).trans (hHeld.2.2.2.2.2.2.2))))))⟩ (fun hHeld => ?_)
     clear hK K
     refine done_ (done_of HT_.out (by kernel_rfl)) ?_
     have fA := au.out
     have fB := ag.out
     have fC := ax.out
     have fD := ai.out
     have fE := ap.out
     have fF := aq.out
     have bi : w51.cell? ⟨ae, 0, none⟩ = some (.string (⟨#[]⟩ : ByteArray)) := cT ak 0
     have bj : w51.cell? ⟨ae, 1, none⟩ = some (.string (⟨#[]⟩ : ByteArray)) := cT ak 1
     have bk : w51.cell? ⟨ae, 2, none⟩ = some (.string (⟨#[]⟩ : ByteArray)) := cT ak 2
     have bl := blk_frozen ak.out 0
     have bm := blk_frozen ak.out 1
     have bo := blk_frozen ak.out 2
     have fG := av.out
     have fH := ah.out
     have fI := ay.out
     have fJ := aj.out
     have bp : w51.cell? ⟨af, 0, none⟩ = some (.string (⟨#[]⟩ : ByteArray)) := cT al 0
     have bq : w51.cell? ⟨af, 1, none⟩ = some (.string (⟨#[]⟩ : ByteArray)) := cT al 1
     have br : w51.cell? ⟨af, 2, none⟩ = some (.string (⟨#[]⟩ : ByteArray)) := cT al 2
     have bs := blk_frozen al.out 0
     have bt := blk_frozen al.out 1
     have bu := blk_frozen al.out 2
     go_upto_region 8 with (fail)
     go_cut [73] (fun v73 wc => ∃ (kq : Nat) (a_ : Bool), v73 = .bool a_ ∧ Aside0 (version_Cmp.j1 kq a_ aA aB aE ar az aC aF aw = some (r1, r2)) ∧ Aside0 (kq ≤ kj4) ∧ Aside0 (Kd.R Kd.string 9 wc w.heap.size (fun k_ => some k_ ≠ ((.slice aI aw.length aH) : Value).ownBlock) (.slice Ao9 ar.length co9) ar) ∧ Aside0 (Kd.R Kd.string 9 wc w.heap.size (fun k_ => some k_ ≠ ((.slice Ao9 ar.length co9) : Value).ownBlock) (.slice aI aw.length aH) aw) ∧ Aside0 (wc.heap[ao]? = some (.cells #[.string aA, .string aB, .string aE, (.slice Ao9 ar.length co9)] 71 (0, 0))) ∧ Aside0 (wc.heap[an]? = some (.cells #[.string az, .string aC, .string aF, (.slice aI aw.length aH)] 71 (0, 0))) ∧ Aside0 (wc.heap[ae]? = some (.cells #[.string aA, .string aB, .string aE] 76 (0, 0))) ∧ Aside0 (wc.heap[af]? = some (.cells #[.string az, .string aC, .string aF] 76 (0, 0))) ∧ Aside0 (Below w.heap.size w wc))
     case first =>
      have H := cV.out
      clear cV
      by_cases c65 : (ar.length : Int) = 0
      ·rw [if_pos c65] at H
       have a8 : ((ar.length : Int) == 0) = true := beq_iff_eq.mpr c65
       have b1 : ((ar.length : Int) != 0) = false := bne_eq_false_iff_eq.mpr c65
       clear c65
       (first | rw [a8] | (simp only [i64_w, i32_w]; rw [a8]) | skip)
       have H' := Aside0.mk H
       clear H
       have fK := aG.out
       have fL := aL.out
       have fM := ag.out
       have fN := au.out
       have fO := ah.out
       have fP := av.out
       have bv : w51.cell? ⟨ao, 0, none⟩ = some (.string aA) := cT aa 0
       have bw : w51.cell? ⟨ao, 1, none⟩ = some (.string aB) := cT aa 1
       have bx : w51.cell? ⟨ao, 2, none⟩ = some (.string aE) := cT aa 2
       have bz : w51.cell? ⟨ao, 3, none⟩ = some (.slice Ao9 ar.length co9) := cT aa 3
       have bC := blk_frozen aa.out 0
       have bD := blk_frozen aa.out 1
       have bE := blk_frozen aa.out 2
       have bF := blk_frozen aa.out 3
       go_wp2
       go_meet
       case rel => exact ⟨_, (true), (by first | rfl | (simp; done) | (simp [*]; done)), H', ⟨by have := HJ4.out; first | omega | exact Nat.le_refl _⟩, ⟨by (with_reducible repeat (first | apply Kd.R_alloc | apply Kd.R_drewN | apply Kd.R_drew)); exact Kd.R_mono (Kd.R_far (p := ⟨af, 2, none⟩) (Kd.R_far (p := ⟨af, 1, none⟩) (Kd.R_far (p := ⟨af, 0, none⟩) (Kd.R_far (p := ⟨ae, 2, none⟩) (Kd.R_far (p := ⟨ae, 1, none⟩) (Kd.R_far (p := ⟨ae, 0, none⟩) (Kd.R_types (Kd.R_types ac.out ak.out (by decide)) al.out (by decide)) (fun _ hk => hk.1.2) (.string aA)) (fun _ hk => hk.1.2) (.string aB)) (fun _ hk => hk.1.2) (.string aE)) (fun _ hk => hk.2) (.string az)) (fun _ hk => hk.2) (.string aC)) (fun _ hk => hk.2) (.string aF)) (fun _ hk => hk.1.1)⟩, ⟨by (with_reducible repeat (first | apply Kd.R_alloc | apply Kd.R_drewN | apply Kd.R_drew)); exact Kd.R_mono (Kd.R_far (p := ⟨af, 2, none⟩) (Kd.R_far (p := ⟨af, 1, none⟩) (Kd.R_far (p := ⟨af, 0, none⟩) (Kd.R_far (p := ⟨ae, 2, none⟩) (Kd.R_far (p := ⟨ae, 1, none⟩) (Kd.R_far (p := ⟨ae, 0, none⟩) (Kd.R_types (Kd.R_types ad.out ak.out (by decide)) al.out (by decide)) (fun _ hk => hk.1.2) (.string aA)) (fun _ hk => hk.1.2) (.string aB)) (fun _ hk => hk.1.2) (.string aE)) (fun _ hk => hk.2) (.string az)) (fun _ hk => hk.2) (.string aC)) (fun _ hk => hk.2) (.string aF)) (fun _ hk => hk.1.1)⟩, ⟨by (with_reducible repeat (first | apply bn | apply bd | apply ba)); refine blk_far ?_ ah.out _; (with_reducible repeat (first | apply bn | apply bd | apply ba)); refine blk_far ?_ ah.out _; (with_reducible repeat (first | apply bn | apply bd | apply ba)); refine blk_far ?_ ah.out _; (with_reducible repeat (first | apply bn | apply bd | apply ba)); refine blk_far ?_ ag.out _; (with_reducible repeat (first | apply bn | apply bd | apply ba)); refine blk_far ?_ ag.out _; (with_reducible repeat (first | apply bn | apply bd | apply ba)); refine blk_far ?_ ag.out _; exact bT aa.out⟩, ⟨by (with_reducible repeat (first | apply bn | apply bd | apply ba)); refine blk_far ?_ aj.out _; (with_reducible repeat (first | apply bn | apply bd | apply ba)); refine blk_far ?_ aj.out _; (with_reducible repeat (first | apply bn | apply bd | apply ba)); refine blk_far ?_ aj.out _; (with_reducible repeat (first | apply bn | apply bd | apply ba)); refine blk_far ?_ ai.out _; (with_reducible repeat (first | apply bn | apply bd | apply ba)); refine blk_far ?_ ai.out _; (with_reducible repeat (first | apply bn | apply bd | apply ba)); refine blk_far ?_ ai.out _; exact bT ab.out⟩, ⟨by (with_reducible repeat (first | apply bn | apply bd | apply ba)); refine blk_far ?_ ap.out _; (with_reducible repeat (first | apply bn | apply bd | apply ba)); refine blk_far ?_ ap.out _; (with_reducible repeat (first | apply bn | apply bd | apply ba)); refine blk_far ?_ ap.out _; (with_reducible repeat (first | apply bn | apply bd | apply ba)); refine blk_put (cs := #[.string aA, .string aB, .string (⟨#[]⟩ : ByteArray)]) ?_ 2 _ rfl; (with_reducible repeat (first | apply bn | apply bd | apply ba)); refine blk_put (cs := #[.string aA, .string (⟨#[]⟩ : ByteArray), .string (⟨#[]⟩ : ByteArray)]) ?_ 1 _ rfl; (with_reducible repeat (first | apply bn | apply bd | apply ba)); refine blk_put (cs := #[.string (⟨#[]⟩ : ByteArray), .string (⟨#[]⟩ : ByteArray), .string (⟨#[]⟩ : ByteArray)]) ?_ 0 _ rfl; exact bT ak.out⟩, ⟨by (with_reducible repeat (first | apply bn | apply bd | apply ba)); refine blk_put (cs := #[.string az, .string aC, .string (⟨#[]⟩ : ByteArray)]) ?_ 2 _ rfl; (with_reducible repeat (first | apply bn | apply bd | apply ba)); refine blk_put (cs := #[.string az, .string (⟨#[]⟩ : ByteArray), .string (⟨#[]⟩ : ByteArray)]) ?_ 1 _ rfl; (with_reducible repeat (first | apply bn | apply bd | apply ba)); refine blk_put (cs := #[.string (⟨#[]⟩ : ByteArray), .string (⟨#[]⟩ : ByteArray), .string (⟨#[]⟩ : ByteArray)]) ?_ 0 _ rfl; (with_reducible repeat (first | apply bn | apply bd | apply ba)); refine blk_far ?_ aq.out _; (with_reducible repeat (first | apply bn | apply bd | apply ba)); refine blk_far ?_ aq.out _; (with_reducible repeat (first | apply bn | apply bd | apply ba)); refine blk_far ?_ aq.out _; exact bT al.out⟩, ⟨by repeat (first | (with_reducible first | exact HB.out | apply pA | apply pN | apply pD | refine eU ?_ (by assumption)) | exact HB.out)⟩⟩
      ·rw [if_neg c65] at H
       have a8 : ((ar.length : Int) == 0) = false := beq_eq_false_iff_ne.mpr c65
       have b1 : ((ar.length : Int) != 0) = true := bne_iff_ne.mpr c65
       have cI : ¬ (ar = []) := fun h_ => c65 (by rw [h_]; rfl)
       (first | rw [a8] | (simp only [i64_w, i32_w]; rw [a8]) | skip)
       have H' := Aside0.mk H
       clear H
       have fQ := aG.out
       have fR := aL.out
       have fS := ag.out
       have fT := au.out
       have fU := ah.out
       have fV := av.out
       have bG : w51.cell? ⟨ao, 0, none⟩ = some (.string aA) := cT aa 0
       have bH : w51.cell? ⟨ao, 1, none⟩ = some (.string aB) := cT aa 1
       have bI : w51.cell? ⟨ao, 2, none⟩ = some (.string aE) := cT aa 2
       have bJ : w51.cell? ⟨ao, 3, none⟩ = some (.slice Ao9 ar.length co9) := cT aa 3
       have bK := blk_frozen aa.out 0
       have bL := blk_frozen aa.out 1
       have bM := blk_frozen aa.out 2
       have bN := blk_frozen aa.out 3
       have fW := ai.out
       have fX := ax.out
       have fY := aj.out
       have fZ := ay.out
       have bO : w51.cell? ⟨an, 0, none⟩ = some (.string az) := cT ab 0
       have bP : w51.cell? ⟨an, 1, none⟩ = some (.string aC) := cT ab 1
       have bQ : w51.cell? ⟨an, 2, none⟩ = some (.string aF) := cT ab 2
       have bR : w51.cell? ⟨an, 3, none⟩ = some (.slice aI aw.length aH) := cT ab 3
       have bS := blk_frozen ab.out 0
       have bU := blk_frozen ab.out 1
       have bV := blk_frozen ab.out 2
       have bW := blk_frozen ab.out 3
       go_wp2
       go_meet
       case rel => exact ⟨_, (((aw.length : Int) == 0)), (by first | rfl | (simp; done) | (simp [*]; done)), H', ⟨by have := HJ4.out; first | omega | exact Nat.le_refl _⟩, ⟨by (with_reducible repeat (first | apply Kd.R_alloc | apply Kd.R_drewN | apply Kd.R_drew)); exact Kd.R_mono (Kd.R_far (p := ⟨af, 2, none⟩) (Kd.R_far (p := ⟨af, 1, none⟩) (Kd.R_far (p := ⟨af, 0, none⟩) (Kd.R_far (p := ⟨ae, 2, none⟩) (Kd.R_far (p := ⟨ae, 1, none⟩) (Kd.R_far (p := ⟨ae, 0, none⟩) (Kd.R_types (Kd.R_types ac.out ak.out (by decide)) al.out (by decide)) (fun _ hk => hk.1.2) (.string aA)) (fun _ hk => hk.1.2) (.string aB)) (fun _ hk => hk.1.2) (.string aE)) (fun _ hk => hk.2) (.string az)) (fun _ hk => hk.2) (.string aC)) (fun _ hk => hk.2) (.string aF)) (fun _ hk => hk.1.1)⟩, ⟨by (with_reducible repeat (first | apply Kd.R_alloc | apply Kd.R_drewN | apply Kd.R_drew)); exact Kd.R_mono (Kd.R_far (p := ⟨af, 2, none⟩) (Kd.R_far (p := ⟨af, 1, none⟩) (Kd.R_far (p := ⟨af, 0, none⟩) (Kd.R_far (p := ⟨ae, 2, none⟩) (Kd.R_far (p := ⟨ae, 1, none⟩) (Kd.R_far (p := ⟨ae, 0, none⟩) (Kd.R_types (Kd.R_types ad.out ak.out (by decide)) al.out (by decide)) (fun _ hk => hk.1.2) (.string aA)) (fun _ hk => hk.1.2) (.string aB)) (fun _ hk => hk.1.2) (.string aE)) (fun _ hk => hk.2) (.string az)) (fun _ hk => hk.2) (.string aC)) (fun _ hk => hk.2) (.string aF)) (fun _ hk => hk.1.1)⟩, ⟨by (with_reducible repeat (first | apply bn | apply bd | apply ba)); refine blk_far ?_ ah.out _; (with_reducible repeat (first | apply bn | apply bd | apply ba)); refine blk_far ?_ ah.out _; (with_reducible repeat (first | apply bn | apply bd | apply ba)); refine blk_far ?_ ah.out _; (with_reducible repeat (first | apply bn | apply bd | apply ba)); refine blk_far ?_ ag.out _; (with_reducible repeat (first | apply bn | apply bd | apply ba)); refine blk_far ?_ ag.out _; (with_reducible repeat (first | apply bn | apply bd | apply ba)); refine blk_far ?_ ag.out _; exact bT aa.out⟩, ⟨by (with_reducible repeat (first | apply bn | apply bd | apply ba)); refine blk_far ?_ aj.out _; (with_reducible repeat (first | apply bn | apply bd | apply ba)); refine blk_far ?_ aj.out _; (with_reducible repeat (first | apply bn | apply bd | apply ba)); refine blk_far ?_ aj.out _; (with_reducible repeat (first | apply bn | apply bd | apply ba)); refine blk_far ?_ ai.out _; (with_reducible repeat (first | apply bn | apply bd | apply ba)); refine blk_far ?_ ai.out _; (with_reducible repeat (first | apply bn | apply bd | apply ba)); refine blk_far ?_ ai.out _; exact bT ab.out⟩, ⟨by (with_reducible repeat (first | apply bn | apply bd | apply ba)); refine blk_far ?_ ap.out _; (with_reducible repeat (first | apply bn | apply bd | apply ba)); refine blk_far ?_ ap.out _; (with_reducible repeat (first | apply bn | apply bd | apply ba)); refine blk_far ?_ ap.out _; (with_reducible repeat (first | apply bn | apply bd | apply ba)); refine blk_put (cs := #[.string aA, .string aB, .string (⟨#[]⟩ : ByteArray)]) ?_ 2 _ rfl; (with_reducible repeat (first | apply bn | apply bd | apply ba)); refine blk_put (cs := #[.string aA, .string (⟨#[]⟩ : ByteArray), .string (⟨#[]⟩ : ByteArray)]) ?_ 1 _ rfl; (with_reducible repeat (first | apply bn | apply bd | apply ba)); refine blk_put (cs := #[.string (⟨#[]⟩ : ByteArray), .string (⟨#[]⟩ : ByteArray), .string (⟨#[]⟩ : ByteArray)]) ?_ 0 _ rfl; exact bT ak.out⟩, ⟨by (with_reducible repeat (first | apply bn | apply bd | apply ba)); refine blk_put (cs := #[.string az, .string aC, .string (⟨#[]⟩ : ByteArray)]) ?_ 2 _ rfl; (with_reducible repeat (first | apply bn | apply bd | apply ba)); refine blk_put (cs := #[.string az, .string (⟨#[]⟩ : ByteArray), .string (⟨#[]⟩ : ByteArray)]) ?_ 1 _ rfl; (with_reducible repeat (first | apply bn | apply bd | apply ba)); refine blk_put (cs := #[.string (⟨#[]⟩ : ByteArray), .string (⟨#[]⟩ : ByteArray), .string (⟨#[]⟩ : ByteArray)]) ?_ 0 _ rfl; (with_reducible repeat (first | apply bn | apply bd | apply ba)); refine blk_far ?_ aq.out _; (with_reducible repeat (first | apply bn | apply bd | apply ba)); refine blk_far ?_ aq.out _; (with_reducible repeat (first | apply bn | apply bd | apply ba)); refine blk_far ?_ aq.out _; exact bT al.out⟩, ⟨by repeat (first | (with_reducible first | exact HB.out | apply pA | apply pN | apply pD | refine eU ?_ (by assumption)) | exact HB.out)⟩⟩
     case rest =>
      clear cV
      try clear c1
      try clear p2
      try clear c4
      try clear c5
      try clear c6
      try clear c7
      try clear c17
      try clear bZ
      try clear c43
      try clear c58
      try clear c59
      try clear c60
      try clear c62
      try clear c63
      try clear c65
      try clear a8
      try clear b1
      try clear cI
      try clear c66
      try clear c67
      try clear c68
      try clear c70
      try clear c71
      try clear c72
      try clear c74
      try clear c75
      try clear bi
      try clear bj
      try clear bk
      try clear bp
      try clear bq
      try clear br
      try clear bv
      try clear bw
      try clear bx
      try clear bz
      try clear bG
      try clear bH
      try clear bI
      try clear bJ
      try clear bO
      try clear bP
      try clear bQ
      try clear bR
      try clear bl
      try clear bm
      try clear bo
      try clear bs
      try clear bt
      try clear bu
      try clear bC
      try clear bD
      try clear bE
      try clear bF
      try clear bK
      try clear bL
      try clear bM
      try clear bN
      try clear bS
      try clear bU
      try clear bV
      try clear bW
      obtain ⟨kq, a_, rfl, HA, c_, ac, ad, aa, ab, ak, al, HB⟩ := hcut
      cases kq with
      | zero => exact absurd HA.out (by simp [version_Cmp.j1])
      | succ kj46 =>
       have H := HA.out
       clear HA
       simp only [version_Cmp.j1] at H
       by_cases c77 : a_ = true
       ·subst c77
        have H1 : ((cmp_Compare_int.f (aw.length : Int) (ar.length : Int)).bind fun bX => (some (bX, 0))) = some (r1, r2) := by rw [if_pos rfl] at H; exact H
        clear H
        have H := H1
        clear H1
        replace H := Option.bind_eq_some_iff.mp H
        obtain ⟨bX, da, H⟩ := H
        replace H : (some (bX, 0)) = some (r1, r2) := H
        have A78 := Aside0.mk da
        clear da
        simp only [Option.some.injEq, Prod.mk.injEq] at H
        obtain ⟨rfl, rfl⟩ := H
        have f0 := aL.out
        have f1 := aG.out
        have f2 := ai.out
        have f3 := ax.out
        have f4 := aj.out
        have f5 := ay.out
        have ca : wc.cell? ⟨an, 0, none⟩ = some (.string az) := cT ab 0
        have cb : wc.cell? ⟨an, 1, none⟩ = some (.string aC) := cT ab 1
        have cc : wc.cell? ⟨an, 2, none⟩ = some (.string aF) := cT ab 2
        have cd : wc.cell? ⟨an, 3, none⟩ = some (.slice aI aw.length aH) := cT ab 3
        have ce := blk_frozen ab.out 0
        have cf := blk_frozen ab.out 1
        have cg := blk_frozen ab.out 2
        have ch := blk_frozen ab.out 3
        have f6 := ag.out
        have f7 := au.out
        have f8 := ah.out
        have f9 := av.out
        have ci : wc.cell? ⟨ao, 0, none⟩ = some (.string aA) := cT aa 0
        have cj : wc.cell? ⟨ao, 1, none⟩ = some (.string aB) := cT aa 1
        have ck : wc.cell? ⟨ao, 2, none⟩ = some (.string aE) := cT aa 2
        have cl : wc.cell? ⟨ao, 3, none⟩ = some (.slice Ao9 ar.length co9) := cT aa 3
        have cm := blk_frozen aa.out 0
        have cn := blk_frozen aa.out 1
        have co := blk_frozen aa.out 2
        have cp := blk_frozen aa.out 3
        go_wp2_with (first | ((with_reducible refine gate_callee (f := 50) rfl ?_); refine gL (some 80) Tryd.func50 #[.int .i64 (aw.length : Int), .int .i64 (ar.length : Int)] ?_; (with_reducible refine (cmp_Compare_int.calls (aw.length : Int) (ar.length : Int) bX _ A78.out).mono ?_); rintro e w' ⟨rfl, ⟨nd, rfl⟩⟩; refine ⟨_, rfl, ?_⟩))
        go_ret2
        exact ⟨by first | rfl | (simp [errW_none, errW_some] <;> rfl) | (simp [*, errW_none, errW_some] <;> rfl), eT HB.out⟩
       ·replace c77 := Bool.eq_false_iff.mpr c77
        subst c77
        have H1 : (version_Cmp.l0 kj46 (mn (ar.length : Int) (aw.length : Int)) 0 aA aB aE ar az aC aF aw) = some (r1, r2) := by rw [if_neg (show ¬ (false = true) by decide)] at H; exact H
        clear H
        have H := H1
        clear H1
        obtain ⟨bg, bf⟩ : ∃ j_ : Int, (mn (ar.length : Int) (aw.length : Int)) = j_ := ⟨_, rfl⟩
        replace H : (version_Cmp.l0 kj46 bg 0 aA aB aE ar az aC aF aw) = some (r1, r2) := by first | (rw [bf] at H; exact H) | (simp only [bf] at H ⊢; exact H)
        have cW : (if (aw.length : Int) < (ar.length : Int) then (aw.length : Int) else (ar.length : Int)) = bg := bf
        (try (have cX := cW; simp only [Int.ofNat_lt] at cX))
        have H' := Aside0.mk H
        clear H
        have f_ := aG.out
        have ga := aL.out
        have gb := ag.out
        have gc := au.out
        have gd := ah.out
        have ge := av.out
        have cq : wc.cell? ⟨ao, 0, none⟩ = some (.string aA) := cT aa 0
        have cr : wc.cell? ⟨ao, 1, none⟩ = some (.string aB) := cT aa 1
        have ct : wc.cell? ⟨ao, 2, none⟩ = some (.string aE) := cT aa 2
        have cu : wc.cell? ⟨ao, 3, none⟩ = some (.slice Ao9 ar.length co9) := cT aa 3
        have cv := blk_frozen aa.out 0
        have cw := blk_frozen aa.out 1
        have cx := blk_frozen aa.out 2
        have cy := blk_frozen aa.out 3
        have gf := ai.out
        have gg := ax.out
        have gh := aj.out
        have gi := ay.out
        have cz : wc.cell? ⟨an, 0, none⟩ = some (.string az) := cT ab 0
        have cA : wc.cell? ⟨an, 1, none⟩ = some (.string aC) := cT ab 1
        have cB : wc.cell? ⟨an, 2, none⟩ = some (.string aF) := cT ab 2
        have cC : wc.cell? ⟨an, 3, none⟩ = some (.slice aI aw.length aH) := cT ab 3
        have cD := blk_frozen ab.out 0
        have cE := blk_frozen ab.out 1
        have cF := blk_frozen ab.out 2
        have cG := blk_frozen ab.out 3
        go_wp2
        go_loopg [88] kj46 (fun kq v88 w' => ∃ (aD : Int), v88 = .int .i64 aD ∧ Aside0 (version_Cmp.l0 kq bg aD aA aB aE ar az aC aF aw = some (r1, r2)) ∧ Aside0 (kq ≤ kj46) ∧ Aside0 (Kd.R Kd.string 9 w' w.heap.size (fun k_ => some k_ ≠ ((.slice aI aw.length aH) : Value).ownBlock) (.slice Ao9 ar.length co9) ar) ∧ Aside0 (Kd.R Kd.string 9 w' w.heap.size (fun k_ => some k_ ≠ ((.slice Ao9 ar.length co9) : Value).ownBlock) (.slice aI aw.length aH) aw) ∧ Aside0 (w'.heap[ao]? = some (.cells #[.string aA, .string aB, .string aE, (.slice Ao9 ar.length co9)] 71 (0, 0))) ∧ Aside0 (w'.heap[an]? = some (.cells #[.string az, .string aC, .string aF, (.slice aI aw.length aH)] 71 (0, 0))) ∧ Aside0 (w'.heap[ae]? = some (.cells #[.string aA, .string aB, .string aE] 76 (0, 0))) ∧ Aside0 (w'.heap[af]? = some (.cells #[.string az, .string aC, .string aF] 76 (0, 0))) ∧ Aside0 (Below w.heap.size w w'))
        case atStart => exact ⟨(0), (by first | rfl | (simp; done) | (simp [*]; done)), H', ⟨Nat.le_refl _⟩, ⟨rT ac.out⟩, ⟨rT ad.out⟩, ⟨bT aa.out⟩, ⟨bT ab.out⟩, ⟨bT ak.out⟩, ⟨bT al.out⟩, ⟨eT HB.out⟩⟩
        case round =>
         clear H'
         try clear c1
         try clear p2
         try clear c4
         try clear c5
         try clear c6
         try clear c7
         try clear c8
         try clear c9
         try clear c17
         try clear bZ
         try clear c43
         try clear c50
         try clear c58
         try clear c59
         try clear c60
         try clear c62
         try clear c63
         try clear c65
         try clear a8
         try clear b1
         try clear cI
         try clear c66
         try clear c67
         try clear c68
         try clear c70
         try clear c71
         try clear c72
         try clear c74
         try clear c75
         try clear c77
         try clear c79
         try clear c80
         try clear c81
         try clear c83
         try clear c84
         try clear c87
         try clear c88
         try clear c89
         try clear c91
         try clear c92
         try clear bi
         try clear bj
         try clear bk
         try clear bp
         try clear bq
         try clear br
         try clear bv
         try clear bw
         try clear bx
         try clear bz
         try clear bG
         try clear bH
         try clear bI
         try clear bJ
         try clear bO
         try clear bP
         try clear bQ
         try clear bR
         try clear ca
         try clear cb
         try clear cc
         try clear cd
         try clear ci
         try clear cj
         try clear ck
         try clear cl
         try clear cq
         try clear cr
         try clear ct
         try clear cu
         try clear cz
         try clear cA
         try clear cB
         try clear cC
         try clear bl
         try clear bm
         try clear bo
         try clear bs
         try clear bt
         try clear bu
         try clear bC
         try clear bD
         try clear bE
         try clear bF
         try clear bK
         try clear bL
         try clear bM
         try clear bN
         try clear bS
         try clear bU
         try clear bV
         try clear bW
         try clear ce
         try clear cf
         try clear cg
         try clear ch
         try clear cm
         try clear cn
         try clear co
         try clear cp
         try clear cv
         try clear cw
         try clear cx
         try clear cy
         try clear cD
         try clear cE
         try clear cF
         try clear cG
         try clear p2
         obtain ⟨aD, rfl, HA, HK3, ac, ad, aa, ab, ak, al, HB⟩ := hrel
         cases gk with
         | zero => exact absurd HA.out (by simp [version_Cmp.l0])
         | succ k3 =>
          have H := HA.out
          clear HA
          simp only [version_Cmp.l0] at H
          by_cases c94 : aD < bg
          ·rw [if_pos c94] at H
           have db : decide (aD < bg) = true := decide_eq_true c94
           clear c94
           by_cases c95 : 0 ≤ aD
           ·rw [if_pos c95] at H
            have gj : decide (0 ≤ aD) = true := decide_eq_true c95
            clear c95
            by_cases c96 : aD < (ar.length : Int)
            ·rw [if_pos c96] at H
             have gl : decide (aD < (ar.length : Int)) = true := decide_eq_true c96
             clear c96
             by_cases c97 : aD < (aw.length : Int)
             ·rw [if_pos c97] at H
              have gm : decide (aD < (aw.length : Int)) = true := decide_eq_true c97
              clear c97
              replace H := Option.bind_eq_some_iff.mp H
              obtain ⟨a7, dc, H⟩ := H
              replace H : (if a7 = 0 then (version_Cmp.l0 k3 bg (wrap64 (aD + 1)) aA aB aE ar az aC aF aw) else (some (a7, 0))) = some (r1, r2) := H
              have A98 := Aside0.mk dc
              clear dc
              by_cases c99 : a7 = 0
              ·rw [if_pos c99] at H
               have dd : (a7 == 0) = true := beq_iff_eq.mpr c99
               have de : (a7 != 0) = false := bne_eq_false_iff_eq.mpr c99
               clear c99
               have H' := Aside0.mk H
               clear H
               try go_wp2
               replace ac := am (Kd.R_drew ac.out)
               replace ad := am (Kd.R_drew ad.out)
               replace aa := am (blk_drew aa.out)
               replace ab := am (blk_drew ab.out)
               replace ak := am (blk_drew ak.out)
               replace al := am (blk_drew al.out)
               replace HB := am (below_drew1 HB.out)
               have p233 : 0 ≤ (aD : Int) := of_decide_eq_true (by first | (with_reducible assumption) | assumption)
               have q233 : aD < (ar.length : Int) := of_decide_eq_true (by first | (with_reducible assumption) | assumption)
               obtain ⟨ad233, e233, a4⟩ := Kd.at_string (Kd.R_reads' ac.out).2.2 aD p233 q233
               cases e233
               replace p233 := eq_true p233
               replace q233 := eq_true q233
               have p234 : 0 ≤ (aD : Int) := of_decide_eq_true (by first | (with_reducible assumption) | assumption)
               have q234 : aD < (aw.length : Int) := of_decide_eq_true (by first | (with_reducible assumption) | assumption)
               obtain ⟨ad234, e234, a5⟩ := Kd.at_string (Kd.R_reads' ad.out).2.2 aD p234 q234
               cases e234
               replace p234 := eq_true p234
               replace q234 := eq_true q234
               refine start_ (n := 12) (S := fun w' => w'.cell? ⟨ao, 0, none⟩ = some (.string aA) ∧ w'.cell? ⟨ao, 1, none⟩ = some (.string aB) ∧ w'.cell? ⟨ao, 2, none⟩ = some (.string aE) ∧ w'.cell? ⟨ao, 3, none⟩ = some (.slice (some ad233) ar.length co9) ∧ w'.cell? ⟨an, 0, none⟩ = some (.string az) ∧ w'.cell? ⟨an, 1, none⟩ = some (.string aC) ∧ w'.cell? ⟨an, 2, none⟩ = some (.string aF) ∧ w'.cell? ⟨an, 3, none⟩ = some (.slice (some ad234) aw.length aH) ∧ w'.cell? (ad233.add (aD).toNat) = some (.string (rdOf ByteArray.empty ar aD)) ∧ w'.cell? (ad234.add (aD).toNat) = some (.string (rdOf ByteArray.empty aw aD))) (ds := []) (bA 12 0) (by kernel_rfl) rfl (by kernel_rfl) ⟨cT aa 0, cT aa 1, cT aa 2, cT aa 3, cT ab 0, cT ab 1, cT ab 2, cT ab 3, a4, a5⟩ (fun hHeld => ?_); refine with_tabW version_Cmp.tab13 version_Cmp.bits13 (fun HT_ HW_ => ?_)
               generalize wr.drew = gC at ac ad aa ab ak al HB a4 a5 hHeld ⊢
               refine pT 0 91 (bA 12 1) HT_.out ?_
               refine pT 2 93 (bA 12 5) HT_.out ?_
               refine pT 5 96 (bA 12 37) HT_.out ?_
               refine pT 7 98 (bA 12 165) HT_.out ?_
               refine tT 1 92 (bA 12 167) HT_.out HW_.out hHeld ?_ (hy := by rintro w' ⟨s0, s1, s2, s3, s4, s5, s6, s7, s8, s9⟩; go_simp; with_reducible rfl)
               refine pT 3 94 (bA 12 175) HT_.out ?_
               refine tT 4 95 (bA 12 191) HT_.out HW_.out hHeld ?_ (hy := by rintro w' ⟨s0, s1, s2, s3, s4, s5, s6, s7, s8, s9⟩; go_simp; with_reducible rfl)
               refine tT 6 97 (bA 12 255) HT_.out HW_.out hHeld ?_ (hy := by rintro w' ⟨s0, s1, s2, s3, s4, s5, s6, s7, s8, s9⟩; go_simp; with_reducible rfl)
               refine pT 8 99 (bA 12 511) HT_.out ?_
               refine tT 9 100 (bA 12 1023) HT_.out HW_.out hHeld ?_ (hy := by rintro w' ⟨s0, s1, s2, s3, s4, s5, s6, s7, s8, s9⟩; go_simp; with_reducible rfl)
               refine oT 10 (bA 12 2047) HT_.out fun K hK => ?_
               refine gS Tryd.func51 #[.string (rdOf ByteArray.empty ar aD), .string (rdOf ByteArray.empty aw aD)] ?_
               with_reducible refine (version_words.calls k3 (rdOf ByteArray.empty ar aD) (rdOf ByteArray.empty aw aD) a7 _ A98.out).mono ?_
               rintro e gD ⟨rfl, hb⟩
               have HS8_ := (hb.cell (World.block_lt_of_cell? _ _ (hHeld.2.2.2.2.2.2.2.2.1))).trans (hHeld.2.2.2.2.2.2.2.2.1)
               have HS9_ := (hb.cell (World.block_lt_of_cell? _ _ (hHeld.2.2.2.2.2.2.2.2.2))).trans (hHeld.2.2.2.2.2.2.2.2.2)
               refine ⟨_, rfl, ?_⟩
               replace ac := am (rB ac.out hb)
               replace ad := am (rB ad.out hb)
               replace aa := am (bB aa.out hb)
               replace ab := am (bB ab.out hb)
               replace ak := am (bB ak.out hb)
               replace al := am (bB al.out hb)
               replace HB := am (sT HB.out hb)
               (try clear hb)
               (try clear hb2)
               (try clear hk)
               (try clear hi)
               refine hK.out _ _ ⟨cT aa 0, cT aa 1, cT aa 2, cT aa 3, cT ab 0, cT ab 1, cT ab 2, cT ab 3, HS8_, HS9_⟩ (fun hHeld => ?_)
               clear hK K
               refine mN 101 ?_
               refine pT 11 13 (bA 12 4095) HT_.out ?_
               refine done_ (done_of HT_.out (by kernel_rfl)) ?_
               try go_wp2
               go_roundg k3
               case measure => have := HJ4.out; have := c_.out; have := HK3.out; omega
               case rel => exact ⟨(wrap64 (aD + 1)), (by first | rfl | (simp; done) | (simp [*]; done)), H', ⟨by have := HJ4.out; have := c_.out; have := HK3.out; omega⟩, ⟨rT ac.out⟩, ⟨rT ad.out⟩, ⟨bT aa.out⟩, ⟨bT ab.out⟩, ⟨bT ak.out⟩, ⟨bT al.out⟩, ⟨eT HB.out⟩⟩
              ·rw [if_neg c99] at H
               have dd : (a7 == 0) = false := beq_eq_false_iff_ne.mpr c99
               have de : (a7 != 0) = true := bne_iff_ne.mpr c99
               simp only [Option.some.injEq, Prod.mk.injEq] at H
               obtain ⟨rfl, rfl⟩ := H
               try go_wp2
               replace ac := am (Kd.R_drew ac.out)
               replace ad := am (Kd.R_drew ad.out)
               replace aa := am (blk_drew aa.out)
               replace ab := am (blk_drew ab.out)
               replace ak := am (blk_drew ak.out)
               replace al := am (blk_drew al.out)
               replace HB := am (below_drew1 HB.out)
               have p233 : 0 ≤ (aD : Int) := of_decide_eq_true (by first | (with_reducible assumption) | assumption)
               have q233 : aD < (ar.length : Int) := of_decide_eq_true (by first | (with_reducible assumption) | assumption)
               obtain ⟨ad233, e233, a4⟩ := Kd.at_string (Kd.R_reads' ac.out).2.2 aD p233 q233
               cases e233
               replace p233 := eq_true p233
               replace q233 := eq_true q233
               have p234 : 0 ≤ (aD : Int) := of_decide_eq_true (by first | (with_reducible assumption) | assumption)
               have q234 : aD < (aw.length : Int) := of_decide_eq_true (by first | (with_reducible assumption) | assumption)
               obtain ⟨ad234, e234, a5⟩ := Kd.at_string (Kd.R_reads' ad.out).2.2 aD p234 q234
               cases e234
               replace p234 := eq_true p234
               replace q234 := eq_true q234
               refine start_ (n := 12) (S := fun w' => w'.cell? ⟨ao, 0, none⟩ = some (.string aA) ∧ w'.cell? ⟨ao, 1, none⟩ = some (.string aB) ∧ w'.cell? ⟨ao, 2, none⟩ = some (.string aE) ∧ w'.cell? ⟨ao, 3, none⟩ = some (.slice (some ad233) ar.length co9) ∧ w'.cell? ⟨an, 0, none⟩ = some (.string az) ∧ w'.cell? ⟨an, 1, none⟩ = some (.string aC) ∧ w'.cell? ⟨an, 2, none⟩ = some (.string aF) ∧ w'.cell? ⟨an, 3, none⟩ = some (.slice (some ad234) aw.length aH) ∧ w'.cell? (ad233.add (aD).toNat) = some (.string (rdOf ByteArray.empty ar aD)) ∧ w'.cell? (ad234.add (aD).toNat) = some (.string (rdOf ByteArray.empty aw aD))) (ds := []) (bA 12 0) (by kernel_rfl) rfl (by kernel_rfl) ⟨cT aa 0, cT aa 1, cT aa 2, cT aa 3, cT ab 0, cT ab 1, cT ab 2, cT ab 3, a4, a5⟩ (fun hHeld => ?_); refine with_tabW version_Cmp.tab13 version_Cmp.bits13 (fun HT_ HW_ => ?_)
               generalize wr.drew = gE at ac ad aa ab ak al HB a4 a5 hHeld ⊢
               refine pT 0 91 (bA 12 1) HT_.out ?_
               refine pT 2 93 (bA 12 5) HT_.out ?_
               refine pT 5 96 (bA 12 37) HT_.out ?_
               refine pT 7 98 (bA 12 165) HT_.out ?_
               refine tT 1 92 (bA 12 167) HT_.out HW_.out hHeld ?_ (hy := by rintro w' ⟨s0, s1, s2, s3, s4, s5, s6, s7, s8, s9⟩; go_simp; with_reducible rfl)
               refine pT 3 94 (bA 12 175) HT_.out ?_
               refine tT 4 95 (bA 12 191) HT_.out HW_.out hHeld ?_ (hy := by rintro w' ⟨s0, s1, s2, s3, s4, s5, s6, s7, s8, s9⟩; go_simp; with_reducible rfl)
               refine tT 6 97 (bA 12 255) HT_.out HW_.out hHeld ?_ (hy := by rintro w' ⟨s0, s1, s2, s3, s4, s5, s6, s7, s8, s9⟩; go_simp; with_reducible rfl)
               refine pT 8 99 (bA 12 511) HT_.out ?_
               refine tT 9 100 (bA 12 1023) HT_.out HW_.out hHeld ?_ (hy := by rintro w' ⟨s0, s1, s2, s3, s4, s5, s6, s7, s8, s9⟩; go_simp; with_reducible rfl)
               refine oT 10 (bA 12 2047) HT_.out fun K hK => ?_
               refine gS Tryd.func51 #[.string (rdOf ByteArray.empty ar aD), .string (rdOf ByteArray.empty aw aD)] ?_
               with_reducible refine (version_words.calls k3 (rdOf ByteArray.empty ar aD) (rdOf ByteArray.empty aw aD) a7 _ A98.out).mono ?_
               rintro e gF ⟨rfl, hb⟩
               have HS8_ := (hb.cell (World.block_lt_of_cell? _ _ (hHeld.2.2.2.2.2.2.2.2.1))).trans (hHeld.2.2.2.2.2.2.2.2.1)
               have HS9_ := (hb.cell (World.block_lt_of_cell? _ _ (hHeld.2.2.2.2.2.2.2.2.2))).trans (hHeld.2.2.2.2.2.2.2.2.2)
               refine ⟨_, rfl, ?_⟩
               replace ac := am (rB ac.out hb)
               replace ad := am (rB ad.out hb)
               replace aa := am (bB aa.out hb)
               replace ab := am (bB ab.out hb)
               replace ak := am (bB ak.out hb)
               replace al := am (bB al.out hb)
               replace HB := am (sT HB.out hb)
               (try clear hb)
               (try clear hb2)
               (try clear hk)
               (try clear hi)
               refine hK.out _ _ ⟨cT aa 0, cT aa 1, cT aa 2, cT aa 3, cT ab 0, cT ab 1, cT ab 2, cT ab 3, HS8_, HS9_⟩ (fun hHeld => ?_)
               clear hK K
               refine mN 101 ?_
               refine pT 11 13 (bA 12 4095) HT_.out ?_
               refine done_ (done_of HT_.out (by kernel_rfl)) ?_
               try go_wp2
               go_ret2
               exact ⟨by first | rfl | (simp [errW_none, errW_some] <;> rfl) | (simp only [← bf]; first | rfl | (simp [errW_none, errW_some] <;> rfl)) | (simp [*, errW_none, errW_some] <;> rfl), eT HB.out⟩
             ·rw [if_neg c97] at H
              exact absurd H (by simp)
            ·rw [if_neg c96] at H
             exact absurd H (by simp)
           ·rw [if_neg c95] at H
            exact absurd H (by simp)
          ·rw [if_neg c94] at H
           have db : decide (aD < bg) = false := decide_eq_false c94
           clear c94
           replace H := Option.bind_eq_some_iff.mp H
           obtain ⟨b2, cJ, H⟩ := H
           replace H : (some (b2, 0)) = some (r1, r2) := H
           have eY := Aside0.mk cJ
           clear cJ
           simp only [Option.some.injEq, Prod.mk.injEq] at H
           obtain ⟨rfl, rfl⟩ := H
           have eZ := aG.out
           have e0 := aL.out
           have e1 := ag.out
           have e2 := au.out
           have e3 := ah.out
           have e4 := av.out
           have df : wr.cell? ⟨ao, 0, none⟩ = some (.string aA) := cT aa 0
           have dg : wr.cell? ⟨ao, 1, none⟩ = some (.string aB) := cT aa 1
           have dh : wr.cell? ⟨ao, 2, none⟩ = some (.string aE) := cT aa 2
           have di : wr.cell? ⟨ao, 3, none⟩ = some (.slice Ao9 ar.length co9) := cT aa 3
           have dj := blk_frozen aa.out 0
           have dk := blk_frozen aa.out 1
           have dl := blk_frozen aa.out 2
           have dm := blk_frozen aa.out 3
           have e5 := ai.out
           have e6 := ax.out
           have e7 := aj.out
           have e8 := ay.out
           have dn : wr.cell? ⟨an, 0, none⟩ = some (.string az) := cT ab 0
           have dp : wr.cell? ⟨an, 1, none⟩ = some (.string aC) := cT ab 1
           have dq : wr.cell? ⟨an, 2, none⟩ = some (.string aF) := cT ab 2
           have dr : wr.cell? ⟨an, 3, none⟩ = some (.slice aI aw.length aH) := cT ab 3
           have dt := blk_frozen ab.out 0
           have du := blk_frozen ab.out 1
           have dv := blk_frozen ab.out 2
           have dw := blk_frozen ab.out 3
           go_wp2_with (first | ((with_reducible refine gate_callee (f := 50) rfl ?_); refine gL (some 112) Tryd.func50 #[.int .i64 (ar.length : Int), .int .i64 (aw.length : Int)] ?_; (with_reducible refine (cmp_Compare_int.calls (ar.length : Int) (aw.length : Int) b2 _ eY.out).mono ?_); rintro e w' ⟨rfl, ⟨nd, rfl⟩⟩; refine ⟨_, rfl, ?_⟩))
           go_ret2
           exact ⟨by first | rfl | (simp [errW_none, errW_some] <;> rfl) | (simp only [← bf]; first | rfl | (simp [errW_none, errW_some] <;> rfl)) | (simp [*, errW_none, errW_some] <;> rfl), eT HB.out⟩

end Go.Proofs.YtomjppafgalaoaaDoor.P
