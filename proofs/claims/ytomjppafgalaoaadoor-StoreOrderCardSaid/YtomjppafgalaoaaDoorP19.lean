-- Written by this project's own program (wip/tools/hp.py), driving the kit's print; hand texts among it. Not trusted: Lean checks it.
-- half the indentation
import Derived.Test.YtomjppafgalaoaaDoorThin
import Derived.Test.YtomjppafgalaoaaDoorP0
import Derived.Test.YtomjppafgalaoaaDoorP2
import Derived.Test.YtomjppafgalaoaaDoorP17
import Derived.Test.YtomjppafgalaoaaDoorP18
namespace Go.Proofs.YtomjppafgalaoaaDoor.P
open Go.RowKit Go.Proofs.YtomjppafgalaoaaDoorW.PrintWords Go.Proofs.YtomjppafgalaoaaDoorW.PrintLast Go.Proofs.YtomjppafgalaoaaDoorW.PrintMore
attribute [local go_sem] max2_int min2_int max_two min_two max_three min_three max_four min_four   -- for this text's walks alone
set_option linter.unusedVariables false
set_option linter.unusedSimpArgs false

attribute [local go_sem high] eqA76
/-! ### version_Cmp: function 42 -/
mutual
def version_Cmp.j0 : Nat → Bool → ByteArray → ByteArray → ByteArray → List ByteArray → ByteArray → ByteArray → ByteArray → List ByteArray → Option (Int × Int)
 | 0, _, _, _, _, _, _, _, _, _ => none
 | k + 1, x29, aM, aN, aO, aJ, aP, aQ, aR, aK => if x29 = true then (some (0, 1)) else (if (!(aM.toList == aP.toList) || (!(aN.toList == aQ.toList) || (!(aO.toList == aR.toList)))) = true then ((version_numbers.f k aM aP).bind fun a6 => ((version_numbers.f k aN aQ).bind fun aW => ((version_numbers.f k aO aR).bind fun aV => ((cmp_Or_int.f k (([a6, aW, aV] : List Int))).bind fun aX => (some (aX, 0)))))) else (if (aJ.length : Int) = 0 then (version_Cmp.j1 k true aM aN aO aJ aP aQ aR aK) else (version_Cmp.j1 k ((aK.length : Int) == 0) aM aN aO aJ aP aQ aR aK)))
def version_Cmp.j1 : Nat → Bool → ByteArray → ByteArray → ByteArray → List ByteArray → ByteArray → ByteArray → ByteArray → List ByteArray → Option (Int × Int)
 | 0, _, _, _, _, _, _, _, _, _ => none
 | k + 1, x73, aM, aN, aO, aJ, aP, aQ, aR, aK => if x73 = true then ((cmp_Compare_int.f (aK.length : Int) (aJ.length : Int)).bind fun bW => (some (bW, 0))) else (version_Cmp.l0 k (mn (aJ.length : Int) (aK.length : Int)) 0 aM aN aO aJ aP aQ aR aK)
def version_Cmp.l0 : Nat → Int → Int → ByteArray → ByteArray → ByteArray → List ByteArray → ByteArray → ByteArray → ByteArray → List ByteArray → Option (Int × Int)
 | 0, _, _, _, _, _, _, _, _, _, _ => none
 | k + 1, x87, x88, aM, aN, aO, aJ, aP, aQ, aR, aK => if x88 < x87 then (if 0 ≤ x88 then (if x88 < (aJ.length : Int) then (if x88 < (aK.length : Int) then ((version_words.f k (rdOf ByteArray.empty aJ x88) (rdOf ByteArray.empty aK x88)).bind fun a7 => (if a7 = 0 then (version_Cmp.l0 k x87 (wrap64 (x88 + 1)) aM aN aO aJ aP aQ aR aK) else (some (a7, 0)))) else (none)) else (none)) else (none)) else ((cmp_Compare_int.f (aJ.length : Int) (aK.length : Int)).bind fun b1 => (some (b1, 0)))
end
def version_Cmp.f (k : Nat) (a0 : ByteArray) (a1 : ByteArray) : Option (Int × Int) := (version_Split.f k a0).bind fun bt207 => ((version_Split.f k a1).bind fun bt215 => (if bt207.2.2.2.2 = 0 then (version_Cmp.j0 k (bt215.2.2.2.2 != 0) bt207.1 bt207.2.1 bt207.2.2.1 bt207.2.2.2.1 bt215.1 bt215.2.1 bt215.2.2.1 bt215.2.2.2.1) else (version_Cmp.j0 k true bt207.1 bt207.2.1 bt207.2.2.1 bt207.2.2.2.1 bt215.1 bt215.2.1 bt215.2.2.1 bt215.2.2.2.1)))
theorem version_Cmp.mono_l : ∀ k, (∀ y0 y1 y2 y3 y4 y5 y6 y7 y8, LeO (version_Cmp.j0 k y0 y1 y2 y3 y4 y5 y6 y7 y8) (version_Cmp.j0 (k + 1) y0 y1 y2 y3 y4 y5 y6 y7 y8)) ∧ (∀ y0 y1 y2 y3 y4 y5 y6 y7 y8, LeO (version_Cmp.j1 k y0 y1 y2 y3 y4 y5 y6 y7 y8) (version_Cmp.j1 (k + 1) y0 y1 y2 y3 y4 y5 y6 y7 y8)) ∧ (∀ y0 y1 y2 y3 y4 y5 y6 y7 y8 y9, LeO (version_Cmp.l0 k y0 y1 y2 y3 y4 y5 y6 y7 y8 y9) (version_Cmp.l0 (k + 1) y0 y1 y2 y3 y4 y5 y6 y7 y8 y9))
 | 0 => ⟨fun _ _ _ _ _ _ _ _ _ r h => by simp [version_Cmp.j0] at h, fun _ _ _ _ _ _ _ _ _ r h => by simp [version_Cmp.j1] at h, fun _ _ _ _ _ _ _ _ _ _ r h => by simp [version_Cmp.l0] at h⟩
 | k + 1 => by
  obtain ⟨ih0, ih1, ih2⟩ := version_Cmp.mono_l k
  refine ⟨?_, ?_, ?_⟩
  ·intro y0 y1 y2 y3 y4 y5 y6 y7 y8
   unfold version_Cmp.j0
   repeat' first
   | (with_reducible exact ih0 _ _ _ _ _ _ _ _ _)
   | (with_reducible exact ih1 _ _ _ _ _ _ _ _ _)
   | (with_reducible exact ih2 _ _ _ _ _ _ _ _ _ _)
   | (with_reducible exact cmp_Or_int.mono _ _)
   | (with_reducible exact version_Split.mono _ _)
   | (with_reducible exact version_numbers.mono _ _ _)
   | (with_reducible exact version_words.mono _ _ _)
   | (with_reducible exact LeO.refl _)
   | (with_reducible exact LeO.none _)
   | (with_reducible refine LeO.ite ?_ ?_)
   | (with_reducible refine LeO.bind ?_ (fun _ => ?_))
   | exact ih0 _ _ _ _ _ _ _ _ _
   | exact ih1 _ _ _ _ _ _ _ _ _
   | exact ih2 _ _ _ _ _ _ _ _ _ _
   | exact cmp_Or_int.mono _ _
   | exact version_Split.mono _ _
   | exact version_numbers.mono _ _ _
   | exact version_words.mono _ _ _
   | exact LeO.none _
   | refine LeO.ite ?_ ?_
   | refine LeO.bind ?_ (fun _ => ?_)
  ·intro y0 y1 y2 y3 y4 y5 y6 y7 y8
   unfold version_Cmp.j1
   repeat' first
   | (with_reducible exact ih0 _ _ _ _ _ _ _ _ _)
   | (with_reducible exact ih1 _ _ _ _ _ _ _ _ _)
   | (with_reducible exact ih2 _ _ _ _ _ _ _ _ _ _)
   | (with_reducible exact cmp_Or_int.mono _ _)
   | (with_reducible exact version_Split.mono _ _)
   | (with_reducible exact version_numbers.mono _ _ _)
   | (with_reducible exact version_words.mono _ _ _)
   | (with_reducible exact LeO.refl _)
   | (with_reducible exact LeO.none _)
   | (with_reducible refine LeO.ite ?_ ?_)
   | (with_reducible refine LeO.bind ?_ (fun _ => ?_))
   | exact ih0 _ _ _ _ _ _ _ _ _
   | exact ih1 _ _ _ _ _ _ _ _ _
   | exact ih2 _ _ _ _ _ _ _ _ _ _
   | exact cmp_Or_int.mono _ _
   | exact version_Split.mono _ _
   | exact version_numbers.mono _ _ _
   | exact version_words.mono _ _ _
   | exact LeO.none _
   | refine LeO.ite ?_ ?_
   | refine LeO.bind ?_ (fun _ => ?_)
  ·intro y0 y1 y2 y3 y4 y5 y6 y7 y8 y9
   unfold version_Cmp.l0
   repeat' first
   | (with_reducible exact ih0 _ _ _ _ _ _ _ _ _)
   | (with_reducible exact ih1 _ _ _ _ _ _ _ _ _)
   | (with_reducible exact ih2 _ _ _ _ _ _ _ _ _ _)
   | (with_reducible exact cmp_Or_int.mono _ _)
   | (with_reducible exact version_Split.mono _ _)
   | (with_reducible exact version_numbers.mono _ _ _)
   | (with_reducible exact version_words.mono _ _ _)
   | (with_reducible exact LeO.refl _)
   | (with_reducible exact LeO.none _)
   | (with_reducible refine LeO.ite ?_ ?_)
   | (with_reducible refine LeO.bind ?_ (fun _ => ?_))
   | exact ih0 _ _ _ _ _ _ _ _ _
   | exact ih1 _ _ _ _ _ _ _ _ _
   | exact ih2 _ _ _ _ _ _ _ _ _ _
   | exact cmp_Or_int.mono _ _
   | exact version_Split.mono _ _
   | exact version_numbers.mono _ _ _
   | exact version_words.mono _ _ _
   | exact LeO.none _
   | refine LeO.ite ?_ ?_
   | refine LeO.bind ?_ (fun _ => ?_)
theorem version_Cmp.mono : ∀ a0 a1 k, LeO (version_Cmp.f k a0 a1) (version_Cmp.f (k + 1) a0 a1) := by
 intro a0 a1 k
 obtain ⟨ih0, ih1, ih2⟩ := version_Cmp.mono_l k
 unfold version_Cmp.f
 repeat' first
   | (with_reducible exact ih0 _ _ _ _ _ _ _ _ _)
   | (with_reducible exact ih1 _ _ _ _ _ _ _ _ _)
   | (with_reducible exact ih2 _ _ _ _ _ _ _ _ _ _)
   | (with_reducible exact cmp_Or_int.mono _ _)
   | (with_reducible exact version_Split.mono _ _)
   | (with_reducible exact version_numbers.mono _ _ _)
   | (with_reducible exact version_words.mono _ _ _)
   | (with_reducible exact LeO.refl _)
   | (with_reducible exact LeO.none _)
   | (with_reducible refine LeO.ite ?_ ?_)
   | (with_reducible refine LeO.bind ?_ (fun _ => ?_))
   | exact ih0 _ _ _ _ _ _ _ _ _
   | exact ih1 _ _ _ _ _ _ _ _ _
   | exact ih2 _ _ _ _ _ _ _ _ _ _
   | exact cmp_Or_int.mono _ _
   | exact version_Split.mono _ _
   | exact version_numbers.mono _ _ _
   | exact version_words.mono _ _ _
   | exact LeO.none _
   | refine LeO.ite ?_ ?_
   | refine LeO.bind ?_ (fun _ => ?_)
def version_Cmp.T5 : Bool × List (List Nat × List Nat) := (true, [([], []), ([0], [0]), ([], []), ([2], [2]), ([], []), ([4], [4]), ([1, 3, 5], [1, 3, 5]), ([], []), ([7], [7]), ([], []), ([9], [9]), ([], []), ([11], [11]), ([8, 10, 12], [8, 10, 12]), ([], []), ([], []), ([14, 6, 0, 1, 2, 3, 4, 5, 6, 14, 15], [6, 14]), ([15, 13, 16, 0, 1, 2, 3, 4, 5, 6, 7, 8, 9, 10, 11, 12, 13, 14, 15, 16], [13, 15])])
def version_Cmp.B5 : List Nat := [0, 1, 0, 4, 0, 16, 63, 0, 128, 0, 512, 0, 2048, 8064, 0, 0, 49279, 131071]
theorem version_Cmp.tab5 : rtab .any (opsOf Tryd.f42 5) = version_Cmp.T5 := by kernel_rfl
theorem version_Cmp.bits5 : waitsOk version_Cmp.T5.2 version_Cmp.B5 = true := by kernel_rfl
def version_Cmp.T7 : Bool × List (List Nat × List Nat) := (true, [([], []), ([0], [0]), ([], []), ([2], [2]), ([1, 3], [1, 3]), ([], []), ([5], [5]), ([], []), ([7], [7]), ([6, 8, 4], [6, 8]), ([], []), ([10], [10]), ([], []), ([12], [12]), ([11, 13, 9], [11, 13]), ([4, 9, 14], [4, 9, 14]), ([15, 14], [15]), ([16, 16, 0, 1, 2, 3, 4, 5, 6, 7, 8, 9, 10, 11, 12, 13, 14, 15, 16], [16]), ([17, 0, 1, 2, 3, 4, 5, 6, 7, 8, 9, 10, 11, 12, 13, 14, 15, 16, 17], [])])
def version_Cmp.B7 : List Nat := [0, 1, 0, 4, 15, 0, 32, 0, 128, 511, 0, 1024, 0, 4096, 16383, 32767, 65535, 131071, 262143]
theorem version_Cmp.tab7 : rtab .any (opsOf Tryd.f42 7) = version_Cmp.T7 := by kernel_rfl
theorem version_Cmp.bits7 : waitsOk version_Cmp.T7.2 version_Cmp.B7 = true := by kernel_rfl
def version_Cmp.T13 : Bool × List (List Nat × List Nat) := (true, [([], []), ([0], [0]), ([], []), ([1, 2], [1, 2]), ([3], [3]), ([], []), ([5], [5]), ([], []), ([6, 7], [6, 7]), ([8], [8]), ([4, 9], [4, 9]), ([10, 10, 0, 1, 2, 3, 4, 5, 6, 7, 8, 9, 10], [10])])
def version_Cmp.B13 : List Nat := [0, 1, 0, 7, 15, 0, 32, 0, 224, 480, 1023, 2047]
theorem version_Cmp.tab13 : rtab .any (opsOf Tryd.f42 13) = version_Cmp.T13 := by kernel_rfl
theorem version_Cmp.bits13 : waitsOk version_Cmp.T13.2 version_Cmp.B13 = true := by kernel_rfl
set_option maxHeartbeats 8000000 in
set_option maxRecDepth 100000 in
theorem version_Cmp.calls (k : Nat) (a0 : ByteArray) (a1 : ByteArray) (r1 : Int) (r2 : Int) (w : World) (h : version_Cmp.f k a0 a1 = some (r1, r2)) :
  Calls Tryd.prog 42 #[.string a0, .string a1] w fun e w' => e = .returned (.tuple #[.int .i64 r1, .int .i64 r2]) ∧ Below w.heap.size w w' := by
 have hu71 := Tryd.underlying71
 have hu76 := Tryd.underlying76
 have HB := am (Below.refl w.heap.size w)
 have H : ((version_Split.f k a0).bind fun bt207 => ((version_Split.f k a1).bind fun bt215 => (if bt207.2.2.2.2 = 0 then (version_Cmp.j0 k (bt215.2.2.2.2 != 0) bt207.1 bt207.2.1 bt207.2.2.1 bt207.2.2.2.1 bt215.1 bt215.2.1 bt215.2.2.1 bt215.2.2.2.1) else (version_Cmp.j0 k true bt207.1 bt207.2.1 bt207.2.2.1 bt207.2.2.2.1 bt215.1 bt215.2.1 bt215.2.2.1 bt215.2.2.2.1)))) = some (r1, r2) := h
 clear h
 replace H := Option.bind_eq_some_iff.mp H
 obtain ⟨⟨aA, aB, aD, ar, bb⟩, A30, H⟩ := H
 replace H : ((version_Split.f k a1).bind fun bt215 => (if bb = 0 then (version_Cmp.j0 k (bt215.2.2.2.2 != 0) aA aB aD ar bt215.1 bt215.2.1 bt215.2.2.1 bt215.2.2.2.1) else (version_Cmp.j0 k true aA aB aD ar bt215.1 bt215.2.1 bt215.2.2.1 bt215.2.2.2.1))) = some (r1, r2) := H
 have A3 := Aside0.mk A30
 clear A30
 replace H := Option.bind_eq_some_iff.mp H
 obtain ⟨⟨az, aC, aE, au, cJ⟩, A40, H⟩ := H
 replace H : (if bb = 0 then (version_Cmp.j0 k (cJ != 0) aA aB aD ar az aC aE au) else (version_Cmp.j0 k true aA aB aD ar az aC aE au)) = some (r1, r2) := H
 have A4 := Aside0.mk A40
 clear A40
 have HC5 := Aside0.mk H
 clear H
 go_enter Tryd.func42, Tryd.ntmps42
 go_upto_region 3 with (first | ((with_reducible refine gate_callee (f := 46) rfl ?_); refine goesL_ (some 16) rfl rfl Tryd.func46 (by kernel_rfl) rfl #[.string a0] rfl (by (try simp only [List.map_toArray, List.map_cons, List.map_nil]); first | done | rfl | (simp only [List.length_drop, List.length_take]; rfl)) ?_; (with_reducible refine (version_Split.calls k a0 aA aB aD ar bb _ A3.out).mono ?_); rintro e w6 ⟨gl, rfl, ho0, hb⟩; refine ⟨_, rfl, ?_⟩; have aU := am (Kd.R_lower ho0 (below_size (by repeat (first | (with_reducible first | exact HB.out | apply pA | apply pN | apply pD) | exact HB.out)))); replace HB := am (below_step (by repeat (first | (with_reducible first | exact HB.out | apply pA | apply pN | apply pD) | exact HB.out)) hb); (try clear hb); (try clear hb2); (try clear hk); (try clear hi); (try clear ho0)) | ((with_reducible refine gate_dst (N := 6) rfl ?_); (try (refine gate_guard (by rfl) ?_; dsimp only)); refine box_event ?hg (N := 6) ?hd (cs := #[.string (⟨#[]⟩ : ByteArray), .string (⟨#[]⟩ : ByteArray), .string (⟨#[]⟩ : ByteArray), .slice none 0 0]) (t := 71) ?hr ?_; (case hd => rfl); (case hg => rfl); (case hr => first | (go_simp; done) | (go_simp; rfl)); intro ao hg w7 hbox hb; replace aU := am (rB aU.out hb); have aa := am (hbox); have e7 := am ((by rw [hg]; exact (below_size (by repeat (first | (with_reducible first | exact HB.out | apply pA | apply pN | apply pD) | exact HB.out))) : w.heap.size ≤ ao)); have e8 := am ((by rw [hg]; exact (below_size (by repeat (first | (with_reducible first | exact HB.out | apply pA | apply pN | apply pD) | exact HB.out))) : w.heap.size ≤ ao)); replace HB := am (below_step (by repeat (first | (with_reducible first | exact HB.out | apply pA | apply pN | apply pD) | exact HB.out)) hb); clear hb hbox hg; have cK : w7.cell? ⟨ao, 0, none⟩ = some (.string (⟨#[]⟩ : ByteArray)) := (blk_cell aa.out 0).trans rfl; have cL : w7.cell? ⟨ao, 1, none⟩ = some (.string (⟨#[]⟩ : ByteArray)) := (blk_cell aa.out 1).trans rfl; have cM : w7.cell? ⟨ao, 2, none⟩ = some (.string (⟨#[]⟩ : ByteArray)) := (blk_cell aa.out 2).trans rfl; have cN : w7.cell? ⟨ao, 3, none⟩ = some (.slice none 0 0) := (blk_cell aa.out 3).trans rfl; have cO := blk_frozen aa.out 0; have cP := blk_frozen aa.out 1; have cQ := blk_frozen aa.out 2; have cR := blk_frozen aa.out 3; obtain ⟨Ao9, co9, eo9⟩ := Kd.R_slice aU.out; subst eo9) | ((with_reducible refine gate_callee (f := 46) rfl ?_); refine goesL_ (some 21) rfl rfl Tryd.func46 (by kernel_rfl) rfl #[.string a1] rfl (by (try simp only [List.map_toArray, List.map_cons, List.map_nil]); first | done | rfl | (simp only [List.length_drop, List.length_take]; rfl)) ?_; (with_reducible refine (version_Split.calls k a1 az aC aE au cJ _ A4.out).mono ?_); rintro e w10 ⟨gm, rfl, ho0, hb⟩; refine ⟨_, rfl, ?_⟩; have bc := am (Kd.R_lower (Kd.R_new' ho0 (Kd.R_lt (by (with_reducible repeat (first | apply Kd.R_alloc | apply Kd.R_drewN | apply Kd.R_drew)); exact (Kd.R_mono (Kd.R_far (p := ⟨ao, 3, none⟩) (Kd.R_far (p := ⟨ao, 2, none⟩) (Kd.R_far (p := ⟨ao, 1, none⟩) (Kd.R_far (p := ⟨ao, 0, none⟩) (Kd.R_types aU.out aa.out (by decide)) (fun _ hk => hk.2) (.string aA)) (fun _ hk => hk.2) (.string aB)) (fun _ hk => hk.2) (.string aD)) (fun _ hk => hk.2) (.slice Ao9 ar.length co9)) (fun _ h_ => h_.1))))) (below_size (by repeat (first | (with_reducible first | exact HB.out | apply pA | apply pN | apply pD | refine eU ?_ (by assumption)) | exact HB.out)))); replace aU := am (Kd.R_elder' (by (with_reducible repeat (first | apply Kd.R_alloc | apply Kd.R_drewN | apply Kd.R_drew)); exact (Kd.R_mono (Kd.R_far (p := ⟨ao, 3, none⟩) (Kd.R_far (p := ⟨ao, 2, none⟩) (Kd.R_far (p := ⟨ao, 1, none⟩) (Kd.R_far (p := ⟨ao, 0, none⟩) (Kd.R_types aU.out aa.out (by decide)) (fun _ hk => hk.2) (.string aA)) (fun _ hk => hk.2) (.string aB)) (fun _ hk => hk.2) (.string aD)) (fun _ hk => hk.2) (.slice Ao9 ar.length co9)) (fun _ h_ => h_.1))) (Kd.R_base ho0) hb); replace HB := am (below_step (by repeat (first | (with_reducible first | exact HB.out | apply pA | apply pN | apply pD | refine eU ?_ (by assumption)) | exact HB.out)) hb); replace aa := am (blk_below (g := ao) (o := .cells #[.string aA, .string aB, .string aD, .slice Ao9 ar.length co9] 71 (0, 0)) (by (with_reducible repeat (first | apply bn | apply bd | apply ba)); refine blk_put (cs := #[.string aA, .string aB, .string aD, .slice none 0 0]) ?_ 3 _ rfl; (with_reducible repeat (first | apply bn | apply bd | apply ba)); refine blk_put (cs := #[.string aA, .string aB, .string (⟨#[]⟩ : ByteArray), .slice none 0 0]) ?_ 2 _ rfl; (with_reducible repeat (first | apply bn | apply bd | apply ba)); refine blk_put (cs := #[.string aA, .string (⟨#[]⟩ : ByteArray), .string (⟨#[]⟩ : ByteArray), .slice none 0 0]) ?_ 1 _ rfl; (with_reducible repeat (first | apply bn | apply bd | apply ba)); refine blk_put (cs := #[.string (⟨#[]⟩ : ByteArray), .string (⟨#[]⟩ : ByteArray), .string (⟨#[]⟩ : ByteArray), .slice none 0 0]) ?_ 0 _ rfl; exact bT aa.out) hb); (try clear hb); (try clear hb2); (try clear hk); (try clear hi); (try clear ho0)) | ((with_reducible refine gate_dst (N := 8) rfl ?_); (try (refine gate_guard (by rfl) ?_; dsimp only)); refine box_event ?hg (N := 8) ?hd (cs := #[.string (⟨#[]⟩ : ByteArray), .string (⟨#[]⟩ : ByteArray), .string (⟨#[]⟩ : ByteArray), .slice none 0 0]) (t := 71) ?hr ?_; (case hd => rfl); (case hg => rfl); (case hr => first | (go_simp; done) | (go_simp; rfl)); intro an hg w11 hbox hb; replace aU := am (rB aU.out hb); replace bc := am (rB bc.out hb); have ab := am (hbox); have e9 := am ((by rw [hg]; exact (below_size (by repeat (first | (with_reducible first | exact HB.out | apply pA | apply pN | apply pD | refine eU ?_ (by assumption)) | exact HB.out))) : w.heap.size ≤ an)); have e_ := am ((by rw [hg]; exact (below_size (by repeat (first | (with_reducible first | exact HB.out | apply pA | apply pN | apply pD | refine eU ?_ (by assumption)) | exact HB.out))) : w.heap.size ≤ an)); have aG := am ((nT aa.out hg)); have aL := am ((mT aa.out hg)); replace aa := am (bB aa.out hb); replace HB := am (below_step (by repeat (first | (with_reducible first | exact HB.out | apply pA | apply pN | apply pD | refine eU ?_ (by assumption)) | exact HB.out)) hb); clear hb hbox hg; have fa := aL.out; have fb := aG.out; have b2 : w11.cell? ⟨an, 0, none⟩ = some (.string (⟨#[]⟩ : ByteArray)) := (blk_cell ab.out 0).trans rfl; have b3 : w11.cell? ⟨an, 1, none⟩ = some (.string (⟨#[]⟩ : ByteArray)) := (blk_cell ab.out 1).trans rfl; have b4 : w11.cell? ⟨an, 2, none⟩ = some (.string (⟨#[]⟩ : ByteArray)) := (blk_cell ab.out 2).trans rfl; have b5 : w11.cell? ⟨an, 3, none⟩ = some (.slice none 0 0) := (blk_cell ab.out 3).trans rfl; have b6 := blk_frozen ab.out 0; have b7 := blk_frozen ab.out 1; have b8 := blk_frozen ab.out 2; have b9 := blk_frozen ab.out 3; obtain ⟨aI, aH, eR⟩ := Kd.R_slice bc.out; subst eR))
 (try simp only [Act.put, List.setIfInBounds_toArray, List.set_cons_zero, List.set_cons_succ])
 go_cut [29] (fun v29 wc => ∃ (kq : Nat) (bh : Bool), v29 = .bool bh ∧ Aside0 (version_Cmp.j0 kq bh aA aB aD ar az aC aE au = some (r1, r2)) ∧ Aside0 (kq ≤ k) ∧ Aside0 (Kd.R Kd.string 9 wc w.heap.size (fun k_ => some k_ ≠ ((.slice aI au.length aH) : Value).ownBlock) (.slice Ao9 ar.length co9) ar) ∧ Aside0 (Kd.R Kd.string 9 wc w.heap.size (fun k_ => some k_ ≠ ((.slice Ao9 ar.length co9) : Value).ownBlock) (.slice aI au.length aH) au) ∧ Aside0 (wc.heap[ao]? = some (.cells #[.string aA, .string aB, .string aD, (.slice Ao9 ar.length co9)] 71 (0, 0))) ∧ Aside0 (wc.heap[an]? = some (.cells #[.string az, .string aC, .string aE, (.slice aI au.length aH)] 71 (0, 0))) ∧ Aside0 (Below w.heap.size w wc))
 case first =>
  have H := HC5.out
  clear HC5
  by_cases c15 : bb = 0
  ·rw [if_pos c15] at H
   have a9 : (bb == 0) = true := beq_iff_eq.mpr c15
   have cG : (bb != 0) = false := bne_eq_false_iff_eq.mpr c15
   clear c15
   (first | rw [a9] | (simp only [i64_w, i32_w]; rw [a9]) | skip)
   have H' := Aside0.mk H
   clear H
   go_wp2
   go_meet
   case rel => exact ⟨_, ((cJ != 0)), (by first | rfl | (simp; done) | (simp [*]; done)), H', ⟨by first | omega | exact Nat.le_refl _⟩, ⟨by (with_reducible repeat (first | apply Kd.R_alloc | apply Kd.R_drewN | apply Kd.R_drew)); exact Kd.R_mono (Kd.R_far (p := ⟨an, 3, none⟩) (Kd.R_far (p := ⟨an, 2, none⟩) (Kd.R_far (p := ⟨an, 1, none⟩) (Kd.R_far (p := ⟨an, 0, none⟩) (Kd.R_types aU.out ab.out (by decide)) (fun _ hk => hk.2) (.string az)) (fun _ hk => hk.2) (.string aC)) (fun _ hk => hk.2) (.string aE)) (fun _ hk => hk.2) (.slice aI au.length aH)) (fun _ hk => hk.1.2)⟩, ⟨by (with_reducible repeat (first | apply Kd.R_alloc | apply Kd.R_drewN | apply Kd.R_drew)); exact Kd.R_mono (Kd.R_far (p := ⟨an, 3, none⟩) (Kd.R_far (p := ⟨an, 2, none⟩) (Kd.R_far (p := ⟨an, 1, none⟩) (Kd.R_far (p := ⟨an, 0, none⟩) (Kd.R_types bc.out ab.out (by decide)) (fun _ hk => hk.2) (.string az)) (fun _ hk => hk.2) (.string aC)) (fun _ hk => hk.2) (.string aE)) (fun _ hk => hk.2) (.slice aI au.length aH)) (fun _ hk => hk.1.2)⟩, ⟨by (with_reducible repeat (first | apply bn | apply bd | apply ba)); refine blk_far ?_ aG.out _; (with_reducible repeat (first | apply bn | apply bd | apply ba)); refine blk_far ?_ aG.out _; (with_reducible repeat (first | apply bn | apply bd | apply ba)); refine blk_far ?_ aG.out _; (with_reducible repeat (first | apply bn | apply bd | apply ba)); refine blk_far ?_ aG.out _; exact bT aa.out⟩, ⟨by (with_reducible repeat (first | apply bn | apply bd | apply ba)); refine blk_put (cs := #[.string az, .string aC, .string aE, .slice none 0 0]) ?_ 3 _ rfl; (with_reducible repeat (first | apply bn | apply bd | apply ba)); refine blk_put (cs := #[.string az, .string aC, .string (⟨#[]⟩ : ByteArray), .slice none 0 0]) ?_ 2 _ rfl; (with_reducible repeat (first | apply bn | apply bd | apply ba)); refine blk_put (cs := #[.string az, .string (⟨#[]⟩ : ByteArray), .string (⟨#[]⟩ : ByteArray), .slice none 0 0]) ?_ 1 _ rfl; (with_reducible repeat (first | apply bn | apply bd | apply ba)); refine blk_put (cs := #[.string (⟨#[]⟩ : ByteArray), .string (⟨#[]⟩ : ByteArray), .string (⟨#[]⟩ : ByteArray), .slice none 0 0]) ?_ 0 _ rfl; exact bT ab.out⟩, ⟨by repeat (first | (with_reducible first | exact HB.out | apply pA | apply pN | apply pD | refine eU ?_ (by assumption)) | exact HB.out)⟩⟩
  ·rw [if_neg c15] at H
   have a9 : (bb == 0) = false := beq_eq_false_iff_ne.mpr c15
   have cG : (bb != 0) = true := bne_iff_ne.mpr c15
   (first | rw [a9] | (simp only [i64_w, i32_w]; rw [a9]) | skip)
   have H' := Aside0.mk H
   clear H
   go_wp2
   go_meet
   case rel => exact ⟨_, (true), (by first | rfl | (simp; done) | (simp [*]; done)), H', ⟨by first | omega | exact Nat.le_refl _⟩, ⟨by (with_reducible repeat (first | apply Kd.R_alloc | apply Kd.R_drewN | apply Kd.R_drew)); exact Kd.R_mono (Kd.R_far (p := ⟨an, 3, none⟩) (Kd.R_far (p := ⟨an, 2, none⟩) (Kd.R_far (p := ⟨an, 1, none⟩) (Kd.R_far (p := ⟨an, 0, none⟩) (Kd.R_types aU.out ab.out (by decide)) (fun _ hk => hk.2) (.string az)) (fun _ hk => hk.2) (.string aC)) (fun _ hk => hk.2) (.string aE)) (fun _ hk => hk.2) (.slice aI au.length aH)) (fun _ hk => hk.1.2)⟩, ⟨by (with_reducible repeat (first | apply Kd.R_alloc | apply Kd.R_drewN | apply Kd.R_drew)); exact Kd.R_mono (Kd.R_far (p := ⟨an, 3, none⟩) (Kd.R_far (p := ⟨an, 2, none⟩) (Kd.R_far (p := ⟨an, 1, none⟩) (Kd.R_far (p := ⟨an, 0, none⟩) (Kd.R_types bc.out ab.out (by decide)) (fun _ hk => hk.2) (.string az)) (fun _ hk => hk.2) (.string aC)) (fun _ hk => hk.2) (.string aE)) (fun _ hk => hk.2) (.slice aI au.length aH)) (fun _ hk => hk.1.2)⟩, ⟨by (with_reducible repeat (first | apply bn | apply bd | apply ba)); refine blk_far ?_ aG.out _; (with_reducible repeat (first | apply bn | apply bd | apply ba)); refine blk_far ?_ aG.out _; (with_reducible repeat (first | apply bn | apply bd | apply ba)); refine blk_far ?_ aG.out _; (with_reducible repeat (first | apply bn | apply bd | apply ba)); refine blk_far ?_ aG.out _; exact bT aa.out⟩, ⟨by (with_reducible repeat (first | apply bn | apply bd | apply ba)); refine blk_put (cs := #[.string az, .string aC, .string aE, .slice none 0 0]) ?_ 3 _ rfl; (with_reducible repeat (first | apply bn | apply bd | apply ba)); refine blk_put (cs := #[.string az, .string aC, .string (⟨#[]⟩ : ByteArray), .slice none 0 0]) ?_ 2 _ rfl; (with_reducible repeat (first | apply bn | apply bd | apply ba)); refine blk_put (cs := #[.string az, .string (⟨#[]⟩ : ByteArray), .string (⟨#[]⟩ : ByteArray), .slice none 0 0]) ?_ 1 _ rfl; (with_reducible repeat (first | apply bn | apply bd | apply ba)); refine blk_put (cs := #[.string (⟨#[]⟩ : ByteArray), .string (⟨#[]⟩ : ByteArray), .string (⟨#[]⟩ : ByteArray), .slice none 0 0]) ?_ 0 _ rfl; exact bT ab.out⟩, ⟨by repeat (first | (with_reducible first | exact HB.out | apply pA | apply pN | apply pD | refine eU ?_ (by assumption)) | exact HB.out)⟩⟩
 case rest =>
  clear HC5
  try clear c1
  try clear p2
  try clear c4
  try clear c12
  try clear c15
  try clear a9
  try clear cG
  try clear b2
  try clear b3
  try clear b4
  try clear b5
  try clear cK
  try clear cL
  try clear cM
  try clear cN
  try clear b6
  try clear b7
  try clear b8
  try clear b9
  try clear cO
  try clear cP
  try clear cQ
  try clear cR
  obtain ⟨kq, bh, rfl, HA, HJ4, ac, ad, aa, ab, HB⟩ := hcut
  cases kq with
  | zero => exact absurd HA.out (by simp [version_Cmp.j0])
  | succ kj4 =>
   have H := HA.out
   clear HA
   simp only [version_Cmp.j0] at H
   by_cases c16 : bh = true
   ·subst c16
    have H1 : (some (0, 1)) = some (r1, r2) := by rw [if_pos rfl] at H; exact H
    clear H
    have H := H1
    clear H1
    simp only [Option.some.injEq, Prod.mk.injEq] at H
    obtain ⟨rfl, rfl⟩ := H
    go_wp2
    go_ret2
    exact ⟨by first | rfl | (simp [errW_none, errW_some] <;> rfl) | (simp [*, errW_none, errW_some] <;> rfl), eT HB.out⟩
   ·replace c16 := Bool.eq_false_iff.mpr c16
    subst c16
    have H1 : (if (!(aA.toList == az.toList) || (!(aB.toList == aC.toList) || (!(aD.toList == aE.toList)))) = true then ((version_numbers.f kj4 aA az).bind fun a6 => ((version_numbers.f kj4 aB aC).bind fun aW => ((version_numbers.f kj4 aD aE).bind fun aV => ((cmp_Or_int.f kj4 (([a6, aW, aV] : List Int))).bind fun aX => (some (aX, 0)))))) else (if (ar.length : Int) = 0 then (version_Cmp.j1 kj4 true aA aB aD ar az aC aE au) else (version_Cmp.j1 kj4 ((au.length : Int) == 0) aA aB aD ar az aC aE au))) = some (r1, r2) := by rw [if_neg (show ¬ (false = true) by decide)] at H; exact H
    clear H
    have H := H1
    clear H1
    by_cases c17 : (!(aA.toList == az.toList) || (!(aB.toList == aC.toList) || (!(aD.toList == aE.toList)))) = true
    ·rw [if_pos c17] at H
     have bX : (!(aA.toList == az.toList) || (!(aB.toList == aC.toList) || (!(aD.toList == aE.toList)))) = true := c17
     clear c17
     replace H := Option.bind_eq_some_iff.mp H
     obtain ⟨a6, cW, H⟩ := H
     replace H : ((version_numbers.f kj4 aB aC).bind fun aW => ((version_numbers.f kj4 aD aE).bind fun aV => ((cmp_Or_int.f kj4 (([a6, aW, aV] : List Int))).bind fun aX => (some (aX, 0))))) = some (r1, r2) := H
     have A18 := Aside0.mk cW
     clear cW
     replace H := Option.bind_eq_some_iff.mp H
     obtain ⟨aW, cX, H⟩ := H
     replace H : ((version_numbers.f kj4 aD aE).bind fun aV => ((cmp_Or_int.f kj4 (([a6, aW, aV] : List Int))).bind fun aX => (some (aX, 0)))) = some (r1, r2) := H
     have A19 := Aside0.mk cX
     clear cX
     replace H := Option.bind_eq_some_iff.mp H
     obtain ⟨aV, cY, H⟩ := H
     replace H : ((cmp_Or_int.f kj4 (([a6, aW, aV] : List Int))).bind fun aX => (some (aX, 0))) = some (r1, r2) := H
     have A20 := Aside0.mk cY
     clear cY
     obtain ⟨cS, be⟩ : ∃ y_ : List Int, y_ = (([a6, aW, aV] : List Int)) := ⟨_, rfl⟩
     replace H : ((cmp_Or_int.f kj4 cS).bind fun aX => (some (aX, 0))) = some (r1, r2) := by first | (rw [be]; with_reducible exact H) | (have H2_ := (Option.bind_some _ _).symm.trans H; rw [be]; with_reducible exact H2_) | (have H2_ := (Option.bind_some _ _).symm.trans H; with_reducible exact H2_) | with_reducible exact H | (rw [be]; exact H) | exact H
     have Ny228 := Aside0.mk be
     clear be
     replace H := Option.bind_eq_some_iff.mp H
     obtain ⟨aX, cZ, H⟩ := H
     replace H : (some (aX, 0)) = some (r1, r2) := H
     have A21 := Aside0.mk cZ
     clear cZ
     simp only [Option.some.injEq, Prod.mk.injEq] at H
     obtain ⟨rfl, rfl⟩ := H
     try go_wp2
     have n0_ := am (Kd.R_drew ac.out)
     have n1_ := am (Kd.R_drew ad.out)
     have n2_ := am (blk_drew aa.out)
     have n3_ := am (blk_drew ab.out)
     have n4_ := am (below_drew1 HB.out)
     clear ac ad aa ab HB
     have ac := n0_
     have ad := n1_
     have aa := n2_
     have ab := n3_
     have HB := n4_
     clear n0_ n1_ n2_ n3_ n4_
     refine start_ (n := 18) (S := fun w' => w'.cell? ⟨ao, 0, none⟩ = some (.string aA) ∧ w'.cell? ⟨ao, 1, none⟩ = some (.string aB) ∧ w'.cell? ⟨ao, 2, none⟩ = some (.string aD) ∧ w'.cell? ⟨ao, 3, none⟩ = some (.slice Ao9 ar.length co9) ∧ w'.cell? ⟨an, 0, none⟩ = some (.string az) ∧ w'.cell? ⟨an, 1, none⟩ = some (.string aC) ∧ w'.cell? ⟨an, 2, none⟩ = some (.string aE) ∧ w'.cell? ⟨an, 3, none⟩ = some (.slice aI au.length aH)) (ds := []) #[false, false, false, false, false, false, false, false, false, false, false, false, false, false, false, false, false, false] (by kernel_rfl) rfl rfl ⟨(blk_cell aa.out 0).trans rfl, (blk_cell aa.out 1).trans rfl, (blk_cell aa.out 2).trans rfl, (blk_cell aa.out 3).trans rfl, (blk_cell ab.out 0).trans rfl, (blk_cell ab.out 1).trans rfl, (blk_cell ab.out 2).trans rfl, (blk_cell ab.out 3).trans rfl⟩ (fun hHeld => ?_); refine with_tabW version_Cmp.tab5 version_Cmp.bits5 (fun HT_ HW_ => ?_)
     generalize wc.drew = w22 at ac ad aa ab HB hHeld ⊢
     refine pure_ (i := 0) (N := some 30) (v := ?_) (a' := ?_) #[true, false, false, false, false, false, false, false, false, false, false, false, false, false, false, false, false, false] rfl rfl (any_of HT_.out (by kernel_rfl)) (fun _ _ _ h => h) (Or.inl ⟨by rfl, ?_⟩) ?_ ?_
     rotate_left
     ·intro w'
      go_simp
      with_reducible rfl
     rotate_left
     ·simp only [pS]
      rfl
     refine pure_ (i := 2) (N := some 32) (v := ?_) (a' := ?_) #[true, false, true, false, false, false, false, false, false, false, false, false, false, false, false, false, false, false] rfl rfl (any_of HT_.out (by kernel_rfl)) (fun _ _ _ h => h) (Or.inl ⟨by rfl, ?_⟩) ?_ ?_
     rotate_left
     ·intro w'
      go_simp
      with_reducible rfl
     rotate_left
     ·simp only [pS]
      rfl
     refine pure_ (i := 4) (N := some 34) (v := ?_) (a' := ?_) #[true, false, true, false, true, false, false, false, false, false, false, false, false, false, false, false, false, false] rfl rfl (any_of HT_.out (by kernel_rfl)) (fun _ _ _ h => h) (Or.inl ⟨by rfl, ?_⟩) ?_ ?_
     rotate_left
     ·intro w'
      go_simp
      with_reducible rfl
     rotate_left
     ·simp only [pS]
      rfl
     refine pure_ (i := 7) (N := some 37) (v := ?_) (a' := ?_) #[true, false, true, false, true, false, false, true, false, false, false, false, false, false, false, false, false, false] rfl rfl (any_of HT_.out (by kernel_rfl)) (fun _ _ _ h => h) (Or.inl ⟨by rfl, ?_⟩) ?_ ?_
     rotate_left
     ·intro w'
      go_simp
      with_reducible rfl
     rotate_left
     ·simp only [pS]
      rfl
     refine pure_ (i := 9) (N := some 39) (v := ?_) (a' := ?_) #[true, false, true, false, true, false, false, true, false, true, false, false, false, false, false, false, false, false] rfl rfl (any_of HT_.out (by kernel_rfl)) (fun _ _ _ h => h) (Or.inl ⟨by rfl, ?_⟩) ?_ ?_
     rotate_left
     ·intro w'
      go_simp
      with_reducible rfl
     rotate_left
     ·simp only [pS]
      rfl
     refine pure_ (i := 11) (N := some 41) (v := ?_) (a' := ?_) #[true, false, true, false, true, false, false, true, false, true, false, true, false, false, false, false, false, false] rfl rfl (any_of HT_.out (by kernel_rfl)) (fun _ _ _ h => h) (Or.inl ⟨by rfl, ?_⟩) ?_ ?_
     rotate_left
     ·intro w'
      go_simp
      with_reducible rfl
     rotate_left
     ·simp only [pS]
      rfl
     refine take_ (i := 1) (N := some 31) (v := ?_) (a' := ?_) #[true, true, true, false, true, false, false, true, false, true, false, true, false, false, false, false, false, false] rfl rfl (take_ofW HT_.out HW_.out (by kernel_rfl)) (fun _ _ _ h => h) (Or.inl ⟨by rfl, ?_⟩) hHeld ?_ ?_
     rotate_left
     ·rintro w' ⟨s0, s1, s2, s3, s4, s5, s6, s7⟩
      go_simp
      with_reducible rfl
     rotate_left
     ·simp only [pS]
      rfl
     refine take_ (i := 3) (N := some 33) (v := ?_) (a' := ?_) #[true, true, true, true, true, false, false, true, false, true, false, true, false, false, false, false, false, false] rfl rfl (take_ofW HT_.out HW_.out (by kernel_rfl)) (fun _ _ _ h => h) (Or.inl ⟨by rfl, ?_⟩) hHeld ?_ ?_
     rotate_left
     ·rintro w' ⟨s0, s1, s2, s3, s4, s5, s6, s7⟩
      go_simp
      with_reducible rfl
     rotate_left
     ·simp only [pS]
      rfl
     refine take_ (i := 5) (N := some 35) (v := ?_) (a' := ?_) #[true, true, true, true, true, true, false, true, false, true, false, true, false, false, false, false, false, false] rfl rfl (take_ofW HT_.out HW_.out (by kernel_rfl)) (fun _ _ _ h => h) (Or.inl ⟨by rfl, ?_⟩) hHeld ?_ ?_
     rotate_left
     ·rintro w' ⟨s0, s1, s2, s3, s4, s5, s6, s7⟩
      go_simp
      with_reducible rfl
     rotate_left
     ·simp only [pS]
      rfl
     refine pure_ (i := 6) (N := some 36) (v := ?_) (a' := ?_) #[true, true, true, true, true, true, true, true, false, true, false, true, false, false, false, false, false, false] rfl rfl (any_of HT_.out (by kernel_rfl)) (fun _ _ _ h => h) (Or.inl ⟨by rfl, ?_⟩) ?_ ?_
     rotate_left
     ·intro w'
      go_simp
      with_reducible rfl
     rotate_left
     ·simp only [pS]
      rfl
     refine take_ (i := 8) (N := some 38) (v := ?_) (a' := ?_) #[true, true, true, true, true, true, true, true, true, true, false, true, false, false, false, false, false, false] rfl rfl (take_ofW HT_.out HW_.out (by kernel_rfl)) (fun _ _ _ h => h) (Or.inl ⟨by rfl, ?_⟩) hHeld ?_ ?_
     rotate_left
     ·rintro w' ⟨s0, s1, s2, s3, s4, s5, s6, s7⟩
      go_simp
      with_reducible rfl
     rotate_left
     ·simp only [pS]
      rfl
     refine take_ (i := 10) (N := some 40) (v := ?_) (a' := ?_) #[true, true, true, true, true, true, true, true, true, true, true, true, false, false, false, false, false, false] rfl rfl (take_ofW HT_.out HW_.out (by kernel_rfl)) (fun _ _ _ h => h) (Or.inl ⟨by rfl, ?_⟩) hHeld ?_ ?_
     rotate_left
     ·rintro w' ⟨s0, s1, s2, s3, s4, s5, s6, s7⟩
      go_simp
      with_reducible rfl
     rotate_left
     ·simp only [pS]
      rfl
     refine take_ (i := 12) (N := some 42) (v := ?_) (a' := ?_) #[true, true, true, true, true, true, true, true, true, true, true, true, true, false, false, false, false, false] rfl rfl (take_ofW HT_.out HW_.out (by kernel_rfl)) (fun _ _ _ h => h) (Or.inl ⟨by rfl, ?_⟩) hHeld ?_ ?_
     rotate_left
     ·rintro w' ⟨s0, s1, s2, s3, s4, s5, s6, s7⟩
      go_simp
      with_reducible rfl
     rotate_left
     ·simp only [pS]
      rfl
     refine pure_ (i := 13) (N := some 43) (v := ?_) (a' := ?_) #[true, true, true, true, true, true, true, true, true, true, true, true, true, true, false, false, false, false] rfl rfl (any_of HT_.out (by kernel_rfl)) (fun _ _ _ h => h) (Or.inl ⟨by rfl, ?_⟩) ?_ ?_
     rotate_left
     ·intro w'
      go_simp
      with_reducible rfl
     rotate_left
     ·simp only [pS]
      rfl
     refine join_ (σ := Nat × Nat) 2 #[true, true, true, true, true, true, true, true, true, true, true, true, true, true, true, true, false, false] (fun s_ => [(10, .pointer (some ⟨s_.1, 0, none⟩)), (11, .pointer (some ⟨s_.2, 0, none⟩))]) (fun s_ w' => (w'.cell? ⟨ao, 0, none⟩ = some (.string aA) ∧ w'.cell? ⟨ao, 1, none⟩ = some (.string aB) ∧ w'.cell? ⟨ao, 2, none⟩ = some (.string aD) ∧ w'.cell? ⟨ao, 3, none⟩ = some (.slice Ao9 ar.length co9) ∧ w'.cell? ⟨an, 0, none⟩ = some (.string az) ∧ w'.cell? ⟨an, 1, none⟩ = some (.string aC) ∧ w'.cell? ⟨an, 2, none⟩ = some (.string aE) ∧ w'.cell? ⟨an, 3, none⟩ = some (.slice aI au.length aH)) ∧ (Kd.R Kd.string 9 w' w.heap.size (fun k_ => some k_ ≠ (.slice aI au.length aH : Value).ownBlock) (.slice Ao9 ar.length co9) ar) ∧ (Kd.R Kd.string 9 w' w.heap.size (fun k_ => some k_ ≠ (.slice Ao9 ar.length co9 : Value).ownBlock) (.slice aI au.length aH) au) ∧ (w'.heap[ao]? = some (.cells #[.string aA, .string aB, .string aD, .slice Ao9 ar.length co9] 71 (0, 0))) ∧ (w'.heap[an]? = some (.cells #[.string az, .string aC, .string aE, .slice aI au.length aH] 71 (0, 0))) ∧ (w'.heap[s_.1]? = some (.cells #[.string (⟨#[]⟩ : ByteArray), .string (⟨#[]⟩ : ByteArray), .string (⟨#[]⟩ : ByteArray)] 76 (0, 0))) ∧ (w'.heap[s_.2]? = some (.cells #[.string (⟨#[]⟩ : ByteArray), .string (⟨#[]⟩ : ByteArray), .string (⟨#[]⟩ : ByteArray)] 76 (0, 0))) ∧ (w.heap.size ≤ s_.1) ∧ (w.heap.size ≤ s_.1) ∧ (ao ≠ s_.1) ∧ (s_.1 ≠ ao) ∧ (an ≠ s_.1) ∧ (s_.1 ≠ an) ∧ (s_.2 ≠ s_.1) ∧ (s_.1 ≠ s_.2) ∧ (w.heap.size ≤ s_.2) ∧ (w.heap.size ≤ s_.2) ∧ (ao ≠ s_.2) ∧ (s_.2 ≠ ao) ∧ (an ≠ s_.2) ∧ (s_.2 ≠ an) ∧ (Below w.heap.size w w')) ?_ ?_
     rotate_left
     ·intro hCont
      refine two_ (i := 14) (j := 15) (Ni := some 10) (Nj := some 11) #[true, true, true, true, true, true, true, true, true, true, true, true, true, true, true, false, false, false] #[true, true, true, true, true, true, true, true, true, true, true, true, true, true, false, true, false, false] rfl rfl rfl rfl (two_of HT_.out (by kernel_rfl)) (by decide) (by decide) (fun K hK => ?_) (fun K hK => ?_)
      ·skip
       refine box_step ?hg (N := 10) ?hd (cs := #[.string (⟨#[]⟩ : ByteArray), .string (⟨#[]⟩ : ByteArray), .string (⟨#[]⟩ : ByteArray)]) (t := 76) ?hr ?_; (case hd => rfl); (case hg => rfl); (case hr => first | (go_simp; done) | (go_simp; rfl))
       intro ae hg w23 hbox hb
       have n0_ := am (rB ac.out hb)
       have n1_ := am (rB ad.out hb)
       have n2_ := am (bB aa.out hb)
       have n3_ := am (bB ab.out hb)
       have n4_ := am (sT HB.out hb)
       have n5_ := am (hbox)
       have n6_ := am ((gT hg HB.out))
       have n7_ := am ((gT hg HB.out))
       have n8_ := am ((nT aa.out hg))
       have n9_ := am ((mT aa.out hg))
       have n10_ := am ((nT ab.out hg))
       have n11_ := am ((mT ab.out hg))
       clear ac ad aa ab HB
       have ac := n0_
       have ad := n1_
       have aa := n2_
       have ab := n3_
       have HB := n4_
       have ak := n5_
       have aY := n6_
       have aZ := n7_
       have ag := n8_
       have av := n9_
       have ai := n10_
       have ax := n11_
       clear n0_ n1_ n2_ n3_ n4_ n5_ n6_ n7_ n8_ n9_ n10_ n11_ hb hbox hg
       refine hK.out _ _ ⟨(blk_cell aa.out 0).trans rfl, (blk_cell aa.out 1).trans rfl, (blk_cell aa.out 2).trans rfl, (blk_cell aa.out 3).trans rfl, (blk_cell ab.out 0).trans rfl, (blk_cell ab.out 1).trans rfl, (blk_cell ab.out 2).trans rfl, (blk_cell ab.out 3).trans rfl⟩ (fun hHeld => ?_)
       clear hK K
       refine norm_ (a' := ?_) ?_ ?_
       rotate_left
       ·show Act.put _ (some 10) _ = _
        simp only [pS]
        rfl
       refine one_ (i := 15) (N := some 11) #[true, true, true, true, true, true, true, true, true, true, true, true, true, true, true, true, false, false] rfl rfl (one_of HT_.out (by kernel_rfl)) (by decide) (fun K hK => ?_)
       refine box_step ?hg (N := 11) ?hd (cs := #[.string (⟨#[]⟩ : ByteArray), .string (⟨#[]⟩ : ByteArray), .string (⟨#[]⟩ : ByteArray)]) (t := 76) ?hr ?_; (case hd => rfl); (case hg => rfl); (case hr => first | (go_simp; done) | (go_simp; rfl))
       intro af hg w24 hbox hb
       have n0_ := am (rB ac.out hb)
       have n1_ := am (rB ad.out hb)
       have n2_ := am (bB aa.out hb)
       have n3_ := am (bB ab.out hb)
       have n4_ := am (bB ak.out hb)
       have n5_ := am (sT HB.out hb)
       have n6_ := am (hbox)
       have n7_ := am ((gT hg HB.out))
       have n8_ := am ((gT hg HB.out))
       have n9_ := am ((nT aa.out hg))
       have n10_ := am ((mT aa.out hg))
       have n11_ := am ((nT ab.out hg))
       have n12_ := am ((mT ab.out hg))
       have n13_ := am ((nT ak.out hg))
       have n14_ := am ((mT ak.out hg))
       clear ac ad aa ab ak HB
       have ac := n0_
       have ad := n1_
       have aa := n2_
       have ab := n3_
       have ak := n4_
       have HB := n5_
       have al := n6_
       have a2 := n7_
       have a3 := n8_
       have ah := n9_
       have aw := n10_
       have aj := n11_
       have ay := n12_
       have ap := n13_
       have aq := n14_
       clear n0_ n1_ n2_ n3_ n4_ n5_ n6_ n7_ n8_ n9_ n10_ n11_ n12_ n13_ n14_ hb hbox hg
       refine hK.out _ _ ⟨(blk_cell aa.out 0).trans rfl, (blk_cell aa.out 1).trans rfl, (blk_cell aa.out 2).trans rfl, (blk_cell aa.out 3).trans rfl, (blk_cell ab.out 0).trans rfl, (blk_cell ab.out 1).trans rfl, (blk_cell ab.out 2).trans rfl, (blk_cell ab.out 3).trans rfl⟩ (fun hHeld => ?_)
       clear hK K
       refine norm_ (a' := ?_) ?_ ?_
       rotate_left
       ·show Act.put _ (some 11) _ = _
        simp only [pS]
        rfl
       exact norm_ (by simp only [putAll, Act.put, List.setIfInBounds_toArray, List.set_cons_zero, List.set_cons_succ]) (hCont (ae, af) _ ⟨hHeld, (rT ac.out), (rT ad.out), (bT aa.out), (bT ab.out), (bT ak.out), (bT al.out), aY.out, aZ.out, ag.out, av.out, ai.out, ax.out, aq.out, ap.out, a2.out, a3.out, ah.out, aw.out, aj.out, ay.out, (eT HB.out)⟩)
      ·skip
       refine box_step ?hg (N := 11) ?hd (cs := #[.string (⟨#[]⟩ : ByteArray), .string (⟨#[]⟩ : ByteArray), .string (⟨#[]⟩ : ByteArray)]) (t := 76) ?hr ?_; (case hd => rfl); (case hg => rfl); (case hr => first | (go_simp; done) | (go_simp; rfl))
       intro af hg w23 hbox hb
       have n0_ := am (rB ac.out hb)
       have n1_ := am (rB ad.out hb)
       have n2_ := am (bB aa.out hb)
       have n3_ := am (bB ab.out hb)
       have n4_ := am (sT HB.out hb)
       have n5_ := am (hbox)
       have n6_ := am ((gT hg HB.out))
       have n7_ := am ((gT hg HB.out))
       have n8_ := am ((nT aa.out hg))
       have n9_ := am ((mT aa.out hg))
       have n10_ := am ((nT ab.out hg))
       have n11_ := am ((mT ab.out hg))
       clear ac ad aa ab HB
       have ac := n0_
       have ad := n1_
       have aa := n2_
       have ab := n3_
       have HB := n4_
       have al := n5_
       have a2 := n6_
       have a3 := n7_
       have ah := n8_
       have aw := n9_
       have aj := n10_
       have ay := n11_
       clear n0_ n1_ n2_ n3_ n4_ n5_ n6_ n7_ n8_ n9_ n10_ n11_ hb hbox hg
       refine hK.out _ _ ⟨(blk_cell aa.out 0).trans rfl, (blk_cell aa.out 1).trans rfl, (blk_cell aa.out 2).trans rfl, (blk_cell aa.out 3).trans rfl, (blk_cell ab.out 0).trans rfl, (blk_cell ab.out 1).trans rfl, (blk_cell ab.out 2).trans rfl, (blk_cell ab.out 3).trans rfl⟩ (fun hHeld => ?_)
       clear hK K
       refine norm_ (a' := ?_) ?_ ?_
       rotate_left
       ·show Act.put _ (some 11) _ = _
        simp only [pS]
        rfl
       refine one_ (i := 14) (N := some 10) #[true, true, true, true, true, true, true, true, true, true, true, true, true, true, true, true, false, false] rfl rfl (one_of HT_.out (by kernel_rfl)) (by decide) (fun K hK => ?_)
       refine box_step ?hg (N := 10) ?hd (cs := #[.string (⟨#[]⟩ : ByteArray), .string (⟨#[]⟩ : ByteArray), .string (⟨#[]⟩ : ByteArray)]) (t := 76) ?hr ?_; (case hd => rfl); (case hg => rfl); (case hr => first | (go_simp; done) | (go_simp; rfl))
       intro ae hg w24 hbox hb
       have n0_ := am (rB ac.out hb)
       have n1_ := am (rB ad.out hb)
       have n2_ := am (bB aa.out hb)
       have n3_ := am (bB ab.out hb)
       have n4_ := am (bB al.out hb)
       have n5_ := am (sT HB.out hb)
       have n6_ := am (hbox)
       have n7_ := am ((gT hg HB.out))
       have n8_ := am ((gT hg HB.out))
       have n9_ := am ((nT aa.out hg))
       have n10_ := am ((mT aa.out hg))
       have n11_ := am ((nT ab.out hg))
       have n12_ := am ((mT ab.out hg))
       have n13_ := am ((nT al.out hg))
       have n14_ := am ((mT al.out hg))
       clear ac ad aa ab al HB
       have ac := n0_
       have ad := n1_
       have aa := n2_
       have ab := n3_
       have al := n4_
       have HB := n5_
       have ak := n6_
       have aY := n7_
       have aZ := n8_
       have ag := n9_
       have av := n10_
       have ai := n11_
       have ax := n12_
       have aq := n13_
       have ap := n14_
       clear n0_ n1_ n2_ n3_ n4_ n5_ n6_ n7_ n8_ n9_ n10_ n11_ n12_ n13_ n14_ hb hbox hg
       refine hK.out _ _ ⟨(blk_cell aa.out 0).trans rfl, (blk_cell aa.out 1).trans rfl, (blk_cell aa.out 2).trans rfl, (blk_cell aa.out 3).trans rfl, (blk_cell ab.out 0).trans rfl, (blk_cell ab.out 1).trans rfl, (blk_cell ab.out 2).trans rfl, (blk_cell ab.out 3).trans rfl⟩ (fun hHeld => ?_)
       clear hK K
       refine norm_ (a' := ?_) ?_ ?_
       rotate_left
       ·show Act.put _ (some 10) _ = _
        simp only [pS]
        rfl
       exact norm_ (by simp only [putAll, Act.put, List.setIfInBounds_toArray, List.set_cons_zero, List.set_cons_succ]) (hCont (ae, af) _ ⟨hHeld, (rT ac.out), (rT ad.out), (bT aa.out), (bT ab.out), (bT ak.out), (bT al.out), aY.out, aZ.out, ag.out, av.out, ai.out, ax.out, aq.out, ap.out, a2.out, a3.out, ah.out, aw.out, aj.out, ay.out, (eT HB.out)⟩)
     rintro ⟨ae, af⟩ w25 ⟨hS_, h0_, h1_, h2_, h3_, h4_, h5_, h6_, h7_, h8_, h9_, h10_, h11_, h12_, h13_, h14_, h15_, h16_, h17_, h18_, h19_, h20_⟩
     have n0_ : Aside0 (Kd.R Kd.string 9 w25 w.heap.size (fun k_ => some k_ ≠ (.slice aI au.length aH : Value).ownBlock) (.slice Ao9 ar.length co9) ar) := ⟨h0_⟩
     have n1_ : Aside0 (Kd.R Kd.string 9 w25 w.heap.size (fun k_ => some k_ ≠ (.slice Ao9 ar.length co9 : Value).ownBlock) (.slice aI au.length aH) au) := ⟨h1_⟩
     have n2_ : Aside0 (w25.heap[ao]? = some (.cells #[.string aA, .string aB, .string aD, .slice Ao9 ar.length co9] 71 (0, 0))) := ⟨h2_⟩
     have n3_ : Aside0 (w25.heap[an]? = some (.cells #[.string az, .string aC, .string aE, .slice aI au.length aH] 71 (0, 0))) := ⟨h3_⟩
     have n4_ : Aside0 (w25.heap[ae]? = some (.cells #[.string (⟨#[]⟩ : ByteArray), .string (⟨#[]⟩ : ByteArray), .string (⟨#[]⟩ : ByteArray)] 76 (0, 0))) := ⟨h4_⟩
     have n5_ : Aside0 (w25.heap[af]? = some (.cells #[.string (⟨#[]⟩ : ByteArray), .string (⟨#[]⟩ : ByteArray), .string (⟨#[]⟩ : ByteArray)] 76 (0, 0))) := ⟨h5_⟩
     have n6_ : Aside0 (w.heap.size ≤ ae) := ⟨h6_⟩
     have n7_ : Aside0 (w.heap.size ≤ ae) := ⟨h7_⟩
     have n8_ : Aside0 (ao ≠ ae) := ⟨h8_⟩
     have n9_ : Aside0 (ae ≠ ao) := ⟨h9_⟩
     have n10_ : Aside0 (an ≠ ae) := ⟨h10_⟩
     have n11_ : Aside0 (ae ≠ an) := ⟨h11_⟩
     have n12_ : Aside0 (af ≠ ae) := ⟨h12_⟩
     have n13_ : Aside0 (ae ≠ af) := ⟨h13_⟩
     have n14_ : Aside0 (w.heap.size ≤ af) := ⟨h14_⟩
     have n15_ : Aside0 (w.heap.size ≤ af) := ⟨h15_⟩
     have n16_ : Aside0 (ao ≠ af) := ⟨h16_⟩
     have n17_ : Aside0 (af ≠ ao) := ⟨h17_⟩
     have n18_ : Aside0 (an ≠ af) := ⟨h18_⟩
     have n19_ : Aside0 (af ≠ an) := ⟨h19_⟩
     have n20_ : Aside0 (Below w.heap.size w w25) := ⟨h20_⟩
     clear ac ad aa ab HB h0_ h1_ h2_ h3_ h4_ h5_ h6_ h7_ h8_ h9_ h10_ h11_ h12_ h13_ h14_ h15_ h16_ h17_ h18_ h19_ h20_
     have ac := n0_
     have ad := n1_
     have aa := n2_
     have ab := n3_
     have ak := n4_
     have al := n5_
     have aY := n6_
     have aZ := n7_
     have ag := n8_
     have av := n9_
     have ai := n10_
     have ax := n11_
     have aq := n12_
     have ap := n13_
     have a2 := n14_
     have a3 := n15_
     have ah := n16_
     have aw := n17_
     have aj := n18_
     have ay := n19_
     have HB := n20_
     clear n0_ n1_ n2_ n3_ n4_ n5_ n6_ n7_ n8_ n9_ n10_ n11_ n12_ n13_ n14_ n15_ n16_ n17_ n18_ n19_ n20_
     have hHeld : w25.cell? ⟨ao, 0, none⟩ = some (.string aA) ∧ w25.cell? ⟨ao, 1, none⟩ = some (.string aB) ∧ w25.cell? ⟨ao, 2, none⟩ = some (.string aD) ∧ w25.cell? ⟨ao, 3, none⟩ = some (.slice Ao9 ar.length co9) ∧ w25.cell? ⟨an, 0, none⟩ = some (.string az) ∧ w25.cell? ⟨an, 1, none⟩ = some (.string aC) ∧ w25.cell? ⟨an, 2, none⟩ = some (.string aE) ∧ w25.cell? ⟨an, 3, none⟩ = some (.slice aI au.length aH) := hS_
     refine norm_ (a' := ?_) ?_ ?_
     rotate_left
     ·simp only [putAll, Act.put, List.setIfInBounds_toArray, List.set_cons_zero, List.set_cons_succ]
      rfl
     refine one_ (i := 16) (N := none) #[true, true, true, true, true, true, true, true, true, true, true, true, true, true, true, true, true, false] rfl rfl (one_of HT_.out (by kernel_rfl)) (by decide) (fun K hK => ?_)
     have gn : w25.cell? ⟨ae, 0, none⟩ = some (.string (⟨#[]⟩ : ByteArray)) := (blk_cell ak.out 0).trans rfl
     have fc := blk_frozen ak.out 0
     have dv := ag.out
     have dw := ai.out
     have dx := aq.out
     have dy := av.out
     have dz := ax.out
     have dA := ap.out
     have go : w25.cell? ⟨ae, 1, none⟩ = some (.string (⟨#[]⟩ : ByteArray)) := (blk_cell ak.out 1).trans rfl
     have fd := blk_frozen ak.out 1
     have dB := ag.out
     have dC := ai.out
     have dD := aq.out
     have dE := av.out
     have dF := ax.out
     have dG := ap.out
     have gp : w25.cell? ⟨ae, 2, none⟩ = some (.string (⟨#[]⟩ : ByteArray)) := (blk_cell ak.out 2).trans rfl
     have fe := blk_frozen ak.out 2
     have dH := ag.out
     have dI := ai.out
     have dJ := aq.out
     have dK := av.out
     have dL := ax.out
     have dM := ap.out
     refine skip_ (w1 := ?_) (by rfl) rfl ?_ ?_
     rotate_left
     ·go_simp
      rfl
     refine hK.out _ _ ⟨((cell_far (p := ⟨ae, _, none⟩) ag.out _).trans (((cell_far (p := ⟨ae, _, none⟩) ag.out _).trans (((cell_far (p := ⟨ae, _, none⟩) ag.out _).trans (hHeld.1)))))), ((cell_far (p := ⟨ae, _, none⟩) ag.out _).trans (((cell_far (p := ⟨ae, _, none⟩) ag.out _).trans (((cell_far (p := ⟨ae, _, none⟩) ag.out _).trans (hHeld.2.1)))))), ((cell_far (p := ⟨ae, _, none⟩) ag.out _).trans (((cell_far (p := ⟨ae, _, none⟩) ag.out _).trans (((cell_far (p := ⟨ae, _, none⟩) ag.out _).trans (hHeld.2.2.1)))))), ((cell_far (p := ⟨ae, _, none⟩) ag.out _).trans (((cell_far (p := ⟨ae, _, none⟩) ag.out _).trans (((cell_far (p := ⟨ae, _, none⟩) ag.out _).trans (hHeld.2.2.2.1)))))), ((cell_far (p := ⟨ae, _, none⟩) ai.out _).trans (((cell_far (p := ⟨ae, _, none⟩) ai.out _).trans (((cell_far (p := ⟨ae, _, none⟩) ai.out _).trans (hHeld.2.2.2.2.1)))))), ((cell_far (p := ⟨ae, _, none⟩) ai.out _).trans (((cell_far (p := ⟨ae, _, none⟩) ai.out _).trans (((cell_far (p := ⟨ae, _, none⟩) ai.out _).trans (hHeld.2.2.2.2.2.1)))))), ((cell_far (p := ⟨ae, _, none⟩) ai.out _).trans (((cell_far (p := ⟨ae, _, none⟩) ai.out _).trans (((cell_far (p := ⟨ae, _, none⟩) ai.out _).trans (hHeld.2.2.2.2.2.2.1)))))), ((cell_far (p := ⟨ae, _, none⟩) ai.out _).trans (((cell_far (p := ⟨ae, _, none⟩) ai.out _).trans (((cell_far (p := ⟨ae, _, none⟩) ai.out _).trans (hHeld.2.2.2.2.2.2.2))))))⟩ (fun hHeld => ?_)
     clear hK K
     refine one_ (i := 17) (N := none) #[true, true, true, true, true, true, true, true, true, true, true, true, true, true, true, true, true, true] rfl rfl (one_of HT_.out (by kernel_rfl)) (by decide) (fun K hK => ?_)
     have gq : w25.cell? ⟨af, 0, none⟩ = some (.string (⟨#[]⟩ : ByteArray)) := (blk_cell al.out 0).trans rfl
     have ff := blk_frozen al.out 0
     have dN := ah.out
     have dP := aj.out
     have dQ := ap.out
     have dR := aw.out
     have dS := ay.out
     have dT := aq.out
     have gr : w25.cell? ⟨af, 1, none⟩ = some (.string (⟨#[]⟩ : ByteArray)) := (blk_cell al.out 1).trans rfl
     have fg := blk_frozen al.out 1
     have dU := ah.out
     have dV := aj.out
     have dW := ap.out
     have dX := aw.out
     have dY := ay.out
     have dZ := aq.out
     have gs : w25.cell? ⟨af, 2, none⟩ = some (.string (⟨#[]⟩ : ByteArray)) := (blk_cell al.out 2).trans rfl
     have fh := blk_frozen al.out 2
     have d0 := ah.out
     have d1 := aj.out
     have d2 := ap.out
     have d3 := aw.out
     have d4 := ay.out
     have d5 := aq.out
     refine skip_ (w1 := ?_) (by rfl) rfl ?_ ?_
     rotate_left
     ·go_simp
      rfl
     refine hK.out _ _ ⟨((cell_far (p := ⟨af, _, none⟩) ah.out _).trans (((cell_far (p := ⟨af, _, none⟩) ah.out _).trans (((cell_far (p := ⟨af, _, none⟩) ah.out _).trans (hHeld.1)))))), ((cell_far (p := ⟨af, _, none⟩) ah.out _).trans (((cell_far (p := ⟨af, _, none⟩) ah.out _).trans (((cell_far (p := ⟨af, _, none⟩) ah.out _).trans (hHeld.2.1)))))), ((cell_far (p := ⟨af, _, none⟩) ah.out _).trans (((cell_far (p := ⟨af, _, none⟩) ah.out _).trans (((cell_far (p := ⟨af, _, none⟩) ah.out _).trans (hHeld.2.2.1)))))), ((cell_far (p := ⟨af, _, none⟩) ah.out _).trans (((cell_far (p := ⟨af, _, none⟩) ah.out _).trans (((cell_far (p := ⟨af, _, none⟩) ah.out _).trans (hHeld.2.2.2.1)))))), ((cell_far (p := ⟨af, _, none⟩) aj.out _).trans (((cell_far (p := ⟨af, _, none⟩) aj.out _).trans (((cell_far (p := ⟨af, _, none⟩) aj.out _).trans (hHeld.2.2.2.2.1)))))), ((cell_far (p := ⟨af, _, none⟩) aj.out _).trans (((cell_far (p := ⟨af, _, none⟩) aj.out _).trans (((cell_far (p := ⟨af, _, none⟩) aj.out _).trans (hHeld.2.2.2.2.2.1)))))), ((cell_far (p := ⟨af, _, none⟩) aj.out _).trans (((cell_far (p := ⟨af, _, none⟩) aj.out _).trans (((cell_far (p := ⟨af, _, none⟩) aj.out _).trans (hHeld.2.2.2.2.2.2.1)))))), ((cell_far (p := ⟨af, _, none⟩) aj.out _).trans (((cell_far (p := ⟨af, _, none⟩) aj.out _).trans (((cell_far (p := ⟨af, _, none⟩) aj.out _).trans (hHeld.2.2.2.2.2.2.2))))))⟩ (fun hHeld => ?_)
     clear hK K
     refine done_ (done_of HT_.out (by kernel_rfl)) ?_
     have fi := av.out
     have fj := ag.out
     have fk := ax.out
     have fl := ai.out
     have fm := ap.out
     have fn := aq.out
     have d6 : w25.cell? ⟨ae, 0, none⟩ = some (.string (⟨#[]⟩ : ByteArray)) := (blk_cell ak.out 0).trans rfl
     have d7 : w25.cell? ⟨ae, 1, none⟩ = some (.string (⟨#[]⟩ : ByteArray)) := (blk_cell ak.out 1).trans rfl
     have d8 : w25.cell? ⟨ae, 2, none⟩ = some (.string (⟨#[]⟩ : ByteArray)) := (blk_cell ak.out 2).trans rfl
     have d9 := blk_frozen ak.out 0
     have d_ := blk_frozen ak.out 1
     have ea := blk_frozen ak.out 2
     have fo := aw.out
     have fp := ah.out
     have fq := ay.out
     have fr := aj.out
     have eb : w25.cell? ⟨af, 0, none⟩ = some (.string (⟨#[]⟩ : ByteArray)) := (blk_cell al.out 0).trans rfl
     have ec : w25.cell? ⟨af, 1, none⟩ = some (.string (⟨#[]⟩ : ByteArray)) := (blk_cell al.out 1).trans rfl
     have ed : w25.cell? ⟨af, 2, none⟩ = some (.string (⟨#[]⟩ : ByteArray)) := (blk_cell al.out 2).trans rfl
     have ee := blk_frozen al.out 0
     have ef := blk_frozen al.out 1
     have eg := blk_frozen al.out 2
     try go_wp2
     have n0_ : Aside0 (Kd.R Kd.string 9 ((((((w25.setCell ⟨ae, 0, none⟩ (.string aA)).setCell ⟨ae, 1, none⟩ (.string aB)).setCell ⟨ae, 2, none⟩ (.string aD)).setCell ⟨af, 0, none⟩ (.string az)).setCell ⟨af, 1, none⟩ (.string aC)).setCell ⟨af, 2, none⟩ (.string aE)) w.heap.size (fun k_ => some k_ ≠ (.slice aI au.length aH : Value).ownBlock) (.slice Ao9 ar.length co9) ar) := ⟨by (with_reducible repeat (first | apply Kd.R_alloc | apply Kd.R_drewN | apply Kd.R_drew)); exact Kd.R_mono (Kd.R_far (p := ⟨af, 2, none⟩) (Kd.R_far (p := ⟨af, 1, none⟩) (Kd.R_far (p := ⟨af, 0, none⟩) (Kd.R_far (p := ⟨ae, 2, none⟩) (Kd.R_far (p := ⟨ae, 1, none⟩) (Kd.R_far (p := ⟨ae, 0, none⟩) (Kd.R_types (Kd.R_types ac.out ak.out (by decide)) al.out (by decide)) (fun _ hk => hk.1.2) (.string aA)) (fun _ hk => hk.1.2) (.string aB)) (fun _ hk => hk.1.2) (.string aD)) (fun _ hk => hk.2) (.string az)) (fun _ hk => hk.2) (.string aC)) (fun _ hk => hk.2) (.string aE)) (fun _ hk => hk.1.1)⟩
     have n1_ : Aside0 (Kd.R Kd.string 9 ((((((w25.setCell ⟨ae, 0, none⟩ (.string aA)).setCell ⟨ae, 1, none⟩ (.string aB)).setCell ⟨ae, 2, none⟩ (.string aD)).setCell ⟨af, 0, none⟩ (.string az)).setCell ⟨af, 1, none⟩ (.string aC)).setCell ⟨af, 2, none⟩ (.string aE)) w.heap.size (fun k_ => some k_ ≠ (.slice Ao9 ar.length co9 : Value).ownBlock) (.slice aI au.length aH) au) := ⟨by (with_reducible repeat (first | apply Kd.R_alloc | apply Kd.R_drewN | apply Kd.R_drew)); exact Kd.R_mono (Kd.R_far (p := ⟨af, 2, none⟩) (Kd.R_far (p := ⟨af, 1, none⟩) (Kd.R_far (p := ⟨af, 0, none⟩) (Kd.R_far (p := ⟨ae, 2, none⟩) (Kd.R_far (p := ⟨ae, 1, none⟩) (Kd.R_far (p := ⟨ae, 0, none⟩) (Kd.R_types (Kd.R_types ad.out ak.out (by decide)) al.out (by decide)) (fun _ hk => hk.1.2) (.string aA)) (fun _ hk => hk.1.2) (.string aB)) (fun _ hk => hk.1.2) (.string aD)) (fun _ hk => hk.2) (.string az)) (fun _ hk => hk.2) (.string aC)) (fun _ hk => hk.2) (.string aE)) (fun _ hk => hk.1.1)⟩
     have n2_ : Aside0 (((((((w25.setCell ⟨ae, 0, none⟩ (.string aA)).setCell ⟨ae, 1, none⟩ (.string aB)).setCell ⟨ae, 2, none⟩ (.string aD)).setCell ⟨af, 0, none⟩ (.string az)).setCell ⟨af, 1, none⟩ (.string aC)).setCell ⟨af, 2, none⟩ (.string aE)).heap[ao]? = some (.cells #[.string aA, .string aB, .string aD, .slice Ao9 ar.length co9] 71 (0, 0))) := ⟨by (with_reducible repeat (first | apply bn | apply bd | apply ba)); refine blk_far ?_ ah.out _; (with_reducible repeat (first | apply bn | apply bd | apply ba)); refine blk_far ?_ ah.out _; (with_reducible repeat (first | apply bn | apply bd | apply ba)); refine blk_far ?_ ah.out _; (with_reducible repeat (first | apply bn | apply bd | apply ba)); refine blk_far ?_ ag.out _; (with_reducible repeat (first | apply bn | apply bd | apply ba)); refine blk_far ?_ ag.out _; (with_reducible repeat (first | apply bn | apply bd | apply ba)); refine blk_far ?_ ag.out _; exact bT aa.out⟩
     have n3_ : Aside0 (((((((w25.setCell ⟨ae, 0, none⟩ (.string aA)).setCell ⟨ae, 1, none⟩ (.string aB)).setCell ⟨ae, 2, none⟩ (.string aD)).setCell ⟨af, 0, none⟩ (.string az)).setCell ⟨af, 1, none⟩ (.string aC)).setCell ⟨af, 2, none⟩ (.string aE)).heap[an]? = some (.cells #[.string az, .string aC, .string aE, .slice aI au.length aH] 71 (0, 0))) := ⟨by (with_reducible repeat (first | apply bn | apply bd | apply ba)); refine blk_far ?_ aj.out _; (with_reducible repeat (first | apply bn | apply bd | apply ba)); refine blk_far ?_ aj.out _; (with_reducible repeat (first | apply bn | apply bd | apply ba)); refine blk_far ?_ aj.out _; (with_reducible repeat (first | apply bn | apply bd | apply ba)); refine blk_far ?_ ai.out _; (with_reducible repeat (first | apply bn | apply bd | apply ba)); refine blk_far ?_ ai.out _; (with_reducible repeat (first | apply bn | apply bd | apply ba)); refine blk_far ?_ ai.out _; exact bT ab.out⟩
     have n4_ : Aside0 (((((((w25.setCell ⟨ae, 0, none⟩ (.string aA)).setCell ⟨ae, 1, none⟩ (.string aB)).setCell ⟨ae, 2, none⟩ (.string aD)).setCell ⟨af, 0, none⟩ (.string az)).setCell ⟨af, 1, none⟩ (.string aC)).setCell ⟨af, 2, none⟩ (.string aE)).heap[ae]? = some (.cells #[.string aA, .string aB, .string aD] 76 (0, 0))) := ⟨by (with_reducible repeat (first | apply bn | apply bd | apply ba)); refine blk_far ?_ ap.out _; (with_reducible repeat (first | apply bn | apply bd | apply ba)); refine blk_far ?_ ap.out _; (with_reducible repeat (first | apply bn | apply bd | apply ba)); refine blk_far ?_ ap.out _; (with_reducible repeat (first | apply bn | apply bd | apply ba)); refine blk_put (cs := #[.string aA, .string aB, .string (⟨#[]⟩ : ByteArray)]) ?_ 2 _ rfl; (with_reducible repeat (first | apply bn | apply bd | apply ba)); refine blk_put (cs := #[.string aA, .string (⟨#[]⟩ : ByteArray), .string (⟨#[]⟩ : ByteArray)]) ?_ 1 _ rfl; (with_reducible repeat (first | apply bn | apply bd | apply ba)); refine blk_put (cs := #[.string (⟨#[]⟩ : ByteArray), .string (⟨#[]⟩ : ByteArray), .string (⟨#[]⟩ : ByteArray)]) ?_ 0 _ rfl; exact bT ak.out⟩
     have n5_ : Aside0 (((((((w25.setCell ⟨ae, 0, none⟩ (.string aA)).setCell ⟨ae, 1, none⟩ (.string aB)).setCell ⟨ae, 2, none⟩ (.string aD)).setCell ⟨af, 0, none⟩ (.string az)).setCell ⟨af, 1, none⟩ (.string aC)).setCell ⟨af, 2, none⟩ (.string aE)).heap[af]? = some (.cells #[.string az, .string aC, .string aE] 76 (0, 0))) := ⟨by (with_reducible repeat (first | apply bn | apply bd | apply ba)); refine blk_put (cs := #[.string az, .string aC, .string (⟨#[]⟩ : ByteArray)]) ?_ 2 _ rfl; (with_reducible repeat (first | apply bn | apply bd | apply ba)); refine blk_put (cs := #[.string az, .string (⟨#[]⟩ : ByteArray), .string (⟨#[]⟩ : ByteArray)]) ?_ 1 _ rfl; (with_reducible repeat (first | apply bn | apply bd | apply ba)); refine blk_put (cs := #[.string (⟨#[]⟩ : ByteArray), .string (⟨#[]⟩ : ByteArray), .string (⟨#[]⟩ : ByteArray)]) ?_ 0 _ rfl; (with_reducible repeat (first | apply bn | apply bd | apply ba)); refine blk_far ?_ aq.out _; (with_reducible repeat (first | apply bn | apply bd | apply ba)); refine blk_far ?_ aq.out _; (with_reducible repeat (first | apply bn | apply bd | apply ba)); refine blk_far ?_ aq.out _; exact bT al.out⟩
     have n6_ : Aside0 (Below w.heap.size w ((((((w25.setCell ⟨ae, 0, none⟩ (.string aA)).setCell ⟨ae, 1, none⟩ (.string aB)).setCell ⟨ae, 2, none⟩ (.string aD)).setCell ⟨af, 0, none⟩ (.string az)).setCell ⟨af, 1, none⟩ (.string aC)).setCell ⟨af, 2, none⟩ (.string aE))) := ⟨by repeat (first | (with_reducible first | exact HB.out | apply pA | apply pN | apply pD | refine eU ?_ (by assumption)) | exact HB.out)⟩
     (try clear ac)
     (try clear ad)
     (try clear aa)
     (try clear ab)
     (try clear ak)
     (try clear al)
     (try clear HB)
     generalize ((((((w25.setCell ⟨ae, 0, none⟩ (.string aA)).setCell ⟨ae, 1, none⟩ (.string aB)).setCell ⟨ae, 2, none⟩ (.string aD)).setCell ⟨af, 0, none⟩ (.string az)).setCell ⟨af, 1, none⟩ (.string aC)).setCell ⟨af, 2, none⟩ (.string aE)) = w39 at n0_ n1_ n2_ n3_ n4_ n5_ n6_ ⊢
     have ac := n0_
     have ad := n1_
     have aa := n2_
     have ab := n3_
     have ak := n4_
     have al := n5_
     have HB := n6_
     clear n0_ n1_ n2_ n3_ n4_ n5_ n6_
     have n0_ := am (Kd.R_drew ac.out)
     have n1_ := am (Kd.R_drew ad.out)
     have n2_ := am (blk_drew aa.out)
     have n3_ := am (blk_drew ab.out)
     have n4_ := am (blk_drew ak.out)
     have n5_ := am (blk_drew al.out)
     have n6_ := am (below_drew1 HB.out)
     clear ac ad aa ab ak al HB
     have ac := n0_
     have ad := n1_
     have aa := n2_
     have ab := n3_
     have ak := n4_
     have al := n5_
     have HB := n6_
     clear n0_ n1_ n2_ n3_ n4_ n5_ n6_
     refine start_ (n := 19) (S := fun w' => w'.cell? ⟨ae, 0, none⟩ = some (.string aA) ∧ w'.cell? ⟨ae, 1, none⟩ = some (.string aB) ∧ w'.cell? ⟨ae, 2, none⟩ = some (.string aD) ∧ w'.cell? ⟨af, 0, none⟩ = some (.string az) ∧ w'.cell? ⟨af, 1, none⟩ = some (.string aC) ∧ w'.cell? ⟨af, 2, none⟩ = some (.string aE)) (ds := []) #[false, false, false, false, false, false, false, false, false, false, false, false, false, false, false, false, false, false, false] (by kernel_rfl) rfl rfl ⟨(blk_cell ak.out 0).trans rfl, (blk_cell ak.out 1).trans rfl, (blk_cell ak.out 2).trans rfl, (blk_cell al.out 0).trans rfl, (blk_cell al.out 1).trans rfl, (blk_cell al.out 2).trans rfl⟩ (fun hHeld => ?_); refine with_tabW version_Cmp.tab7 version_Cmp.bits7 (fun HT_ HW_ => ?_)
     generalize w39.drew = w40 at ac ad aa ab ak al HB hHeld ⊢
     refine pure_ (i := 0) (N := some 47) (v := ?_) (a' := ?_) #[true, false, false, false, false, false, false, false, false, false, false, false, false, false, false, false, false, false, false] rfl rfl (any_of HT_.out (by kernel_rfl)) (fun _ _ _ h => h) (Or.inl ⟨by rfl, ?_⟩) ?_ ?_
     rotate_left
     ·intro w'
      go_simp
      with_reducible rfl
     rotate_left
     ·simp only [pS]
      rfl
     refine pure_ (i := 2) (N := some 49) (v := ?_) (a' := ?_) #[true, false, true, false, false, false, false, false, false, false, false, false, false, false, false, false, false, false, false] rfl rfl (any_of HT_.out (by kernel_rfl)) (fun _ _ _ h => h) (Or.inl ⟨by rfl, ?_⟩) ?_ ?_
     rotate_left
     ·intro w'
      go_simp
      with_reducible rfl
     rotate_left
     ·simp only [pS]
      rfl
     refine pure_ (i := 5) (N := some 52) (v := ?_) (a' := ?_) #[true, false, true, false, false, true, false, false, false, false, false, false, false, false, false, false, false, false, false] rfl rfl (any_of HT_.out (by kernel_rfl)) (fun _ _ _ h => h) (Or.inl ⟨by rfl, ?_⟩) ?_ ?_
     rotate_left
     ·intro w'
      go_simp
      with_reducible rfl
     rotate_left
     ·simp only [pS]
      rfl
     refine pure_ (i := 7) (N := some 54) (v := ?_) (a' := ?_) #[true, false, true, false, false, true, false, true, false, false, false, false, false, false, false, false, false, false, false] rfl rfl (any_of HT_.out (by kernel_rfl)) (fun _ _ _ h => h) (Or.inl ⟨by rfl, ?_⟩) ?_ ?_
     rotate_left
     ·intro w'
      go_simp
      with_reducible rfl
     rotate_left
     ·simp only [pS]
      rfl
     refine pure_ (i := 10) (N := some 57) (v := ?_) (a' := ?_) #[true, false, true, false, false, true, false, true, false, false, true, false, false, false, false, false, false, false, false] rfl rfl (any_of HT_.out (by kernel_rfl)) (fun _ _ _ h => h) (Or.inl ⟨by rfl, ?_⟩) ?_ ?_
     rotate_left
     ·intro w'
      go_simp
      with_reducible rfl
     rotate_left
     ·simp only [pS]
      rfl
     refine pure_ (i := 12) (N := some 59) (v := ?_) (a' := ?_) #[true, false, true, false, false, true, false, true, false, false, true, false, true, false, false, false, false, false, false] rfl rfl (any_of HT_.out (by kernel_rfl)) (fun _ _ _ h => h) (Or.inl ⟨by rfl, ?_⟩) ?_ ?_
     rotate_left
     ·intro w'
      go_simp
      with_reducible rfl
     rotate_left
     ·simp only [pS]
      rfl
     refine take_ (i := 1) (N := some 48) (v := ?_) (a' := ?_) #[true, true, true, false, false, true, false, true, false, false, true, false, true, false, false, false, false, false, false] rfl rfl (take_ofW HT_.out HW_.out (by kernel_rfl)) (fun _ _ _ h => h) (Or.inl ⟨by rfl, ?_⟩) hHeld ?_ ?_
     rotate_left
     ·rintro w' ⟨s0, s1, s2, s3, s4, s5⟩
      go_simp
      with_reducible rfl
     rotate_left
     ·simp only [pS]
      rfl
     refine take_ (i := 3) (N := some 50) (v := ?_) (a' := ?_) #[true, true, true, true, false, true, false, true, false, false, true, false, true, false, false, false, false, false, false] rfl rfl (take_ofW HT_.out HW_.out (by kernel_rfl)) (fun _ _ _ h => h) (Or.inl ⟨by rfl, ?_⟩) hHeld ?_ ?_
     rotate_left
     ·rintro w' ⟨s0, s1, s2, s3, s4, s5⟩
      go_simp
      with_reducible rfl
     rotate_left
     ·simp only [pS]
      rfl
     refine take_ (i := 6) (N := some 53) (v := ?_) (a' := ?_) #[true, true, true, true, false, true, true, true, false, false, true, false, true, false, false, false, false, false, false] rfl rfl (take_ofW HT_.out HW_.out (by kernel_rfl)) (fun _ _ _ h => h) (Or.inl ⟨by rfl, ?_⟩) hHeld ?_ ?_
     rotate_left
     ·rintro w' ⟨s0, s1, s2, s3, s4, s5⟩
      go_simp
      with_reducible rfl
     rotate_left
     ·simp only [pS]
      rfl
     refine take_ (i := 8) (N := some 55) (v := ?_) (a' := ?_) #[true, true, true, true, false, true, true, true, true, false, true, false, true, false, false, false, false, false, false] rfl rfl (take_ofW HT_.out HW_.out (by kernel_rfl)) (fun _ _ _ h => h) (Or.inl ⟨by rfl, ?_⟩) hHeld ?_ ?_
     rotate_left
     ·rintro w' ⟨s0, s1, s2, s3, s4, s5⟩
      go_simp
      with_reducible rfl
     rotate_left
     ·simp only [pS]
      rfl
     refine take_ (i := 11) (N := some 58) (v := ?_) (a' := ?_) #[true, true, true, true, false, true, true, true, true, false, true, true, true, false, false, false, false, false, false] rfl rfl (take_ofW HT_.out HW_.out (by kernel_rfl)) (fun _ _ _ h => h) (Or.inl ⟨by rfl, ?_⟩) hHeld ?_ ?_
     rotate_left
     ·rintro w' ⟨s0, s1, s2, s3, s4, s5⟩
      go_simp
      with_reducible rfl
     rotate_left
     ·simp only [pS]
      rfl
     refine take_ (i := 13) (N := some 60) (v := ?_) (a' := ?_) #[true, true, true, true, false, true, true, true, true, false, true, true, true, true, false, false, false, false, false] rfl rfl (take_ofW HT_.out HW_.out (by kernel_rfl)) (fun _ _ _ h => h) (Or.inl ⟨by rfl, ?_⟩) hHeld ?_ ?_
     rotate_left
     ·rintro w' ⟨s0, s1, s2, s3, s4, s5⟩
      go_simp
      with_reducible rfl
     rotate_left
     ·simp only [pS]
      rfl
     refine one_ (i := 4) (N := some 51) #[true, true, true, true, true, true, true, true, true, false, true, true, true, true, false, false, false, false, false] rfl rfl (one_of HT_.out (by kernel_rfl)) (by decide) (fun K hK => ?_)
     refine goes_ Tryd.func49 (by kernel_rfl) rfl #[.string aA, .string az] (by rfl) rfl rfl (by (try simp only [List.map_toArray, List.map_cons, List.map_nil]); first | done | rfl | (simp only [List.length_drop, List.length_take]; rfl)) ?_
     with_reducible refine (version_numbers.calls kj4 aA az a6 _ A18.out).mono ?_
     rintro e w41 ⟨rfl, hb⟩
     refine ⟨_, rfl, ?_⟩
     have n0_ := am (rB ac.out hb)
     have n1_ := am (rB ad.out hb)
     have n2_ := am (bB aa.out hb)
     have n3_ := am (bB ab.out hb)
     have n4_ := am (bB ak.out hb)
     have n5_ := am (bB al.out hb)
     have n6_ := am (sT HB.out hb)
     clear ac ad aa ab ak al HB
     have ac := n0_
     have ad := n1_
     have aa := n2_
     have ab := n3_
     have ak := n4_
     have al := n5_
     have HB := n6_
     clear n0_ n1_ n2_ n3_ n4_ n5_ n6_
     (try clear hb)
     (try clear hb2)
     (try clear hk)
     (try clear hi)
     refine hK.out _ _ ⟨(blk_cell ak.out 0).trans rfl, (blk_cell ak.out 1).trans rfl, (blk_cell ak.out 2).trans rfl, (blk_cell al.out 0).trans rfl, (blk_cell al.out 1).trans rfl, (blk_cell al.out 2).trans rfl⟩ (fun hHeld => ?_)
     clear hK K
     refine norm_ (a' := ?_) ?_ ?_
     rotate_left
     ·show Act.put _ (some 51) _ = _
      simp only [pS]
      rfl
     refine one_ (i := 9) (N := some 56) #[true, true, true, true, true, true, true, true, true, true, true, true, true, true, false, false, false, false, false] rfl rfl (one_of HT_.out (by kernel_rfl)) (by decide) (fun K hK => ?_)
     refine goes_ Tryd.func49 (by kernel_rfl) rfl #[.string aB, .string aC] (by rfl) rfl rfl (by (try simp only [List.map_toArray, List.map_cons, List.map_nil]); first | done | rfl | (simp only [List.length_drop, List.length_take]; rfl)) ?_
     with_reducible refine (version_numbers.calls kj4 aB aC aW _ A19.out).mono ?_
     rintro e w42 ⟨rfl, hb⟩
     refine ⟨_, rfl, ?_⟩
     have n0_ := am (rB ac.out hb)
     have n1_ := am (rB ad.out hb)
     have n2_ := am (bB aa.out hb)
     have n3_ := am (bB ab.out hb)
     have n4_ := am (bB ak.out hb)
     have n5_ := am (bB al.out hb)
     have n6_ := am (sT HB.out hb)
     clear ac ad aa ab ak al HB
     have ac := n0_
     have ad := n1_
     have aa := n2_
     have ab := n3_
     have ak := n4_
     have al := n5_
     have HB := n6_
     clear n0_ n1_ n2_ n3_ n4_ n5_ n6_
     (try clear hb)
     (try clear hb2)
     (try clear hk)
     (try clear hi)
     refine hK.out _ _ ⟨(blk_cell ak.out 0).trans rfl, (blk_cell ak.out 1).trans rfl, (blk_cell ak.out 2).trans rfl, (blk_cell al.out 0).trans rfl, (blk_cell al.out 1).trans rfl, (blk_cell al.out 2).trans rfl⟩ (fun hHeld => ?_)
     clear hK K
     refine norm_ (a' := ?_) ?_ ?_
     rotate_left
     ·show Act.put _ (some 56) _ = _
      simp only [pS]
      rfl
     refine one_ (i := 14) (N := some 61) #[true, true, true, true, true, true, true, true, true, true, true, true, true, true, true, false, false, false, false] rfl rfl (one_of HT_.out (by kernel_rfl)) (by decide) (fun K hK => ?_)
     refine goes_ Tryd.func49 (by kernel_rfl) rfl #[.string aD, .string aE] (by rfl) rfl rfl (by (try simp only [List.map_toArray, List.map_cons, List.map_nil]); first | done | rfl | (simp only [List.length_drop, List.length_take]; rfl)) ?_
     with_reducible refine (version_numbers.calls kj4 aD aE aV _ A20.out).mono ?_
     rintro e w43 ⟨rfl, hb⟩
     refine ⟨_, rfl, ?_⟩
     have n0_ := am (rB ac.out hb)
     have n1_ := am (rB ad.out hb)
     have n2_ := am (bB aa.out hb)
     have n3_ := am (bB ab.out hb)
     have n4_ := am (bB ak.out hb)
     have n5_ := am (bB al.out hb)
     have n6_ := am (sT HB.out hb)
     clear ac ad aa ab ak al HB
     have ac := n0_
     have ad := n1_
     have aa := n2_
     have ab := n3_
     have ak := n4_
     have al := n5_
     have HB := n6_
     clear n0_ n1_ n2_ n3_ n4_ n5_ n6_
     (try clear hb)
     (try clear hb2)
     (try clear hk)
     (try clear hi)
     refine hK.out _ _ ⟨(blk_cell ak.out 0).trans rfl, (blk_cell ak.out 1).trans rfl, (blk_cell ak.out 2).trans rfl, (blk_cell al.out 0).trans rfl, (blk_cell al.out 1).trans rfl, (blk_cell al.out 2).trans rfl⟩ (fun hHeld => ?_)
     clear hK K
     refine norm_ (a' := ?_) ?_ ?_
     rotate_left
     ·show Act.put _ (some 61) _ = _
      simp only [pS]
      rfl
     refine one_ (i := 15) (N := some 62) #[true, true, true, true, true, true, true, true, true, true, true, true, true, true, true, true, false, false, false] rfl rfl (one_of HT_.out (by kernel_rfl)) (by decide) (fun K hK => ?_)
     refine Kd.R_lit_step (Kd.int .i64) _ 3 ?hg (N := 62) ?hd (xs := ([a6, aW, aV] : List Int)) (inner := [.int .i64 a6, .int .i64 aW, .int .i64 aV]) (ok := fun _ => True) (okp := fun _ => True) ?hr ?hp (fun _ hk => hk) trivial (Below.refl _ _) (Nat.le_refl _) (by simp) ?_; (case hd => rfl); (case hg => rfl); (case hr => first | (go_simp; done) | (go_simp; rfl)); (case hp => exact (Reps.one (show Kd.M (Kd.int .i64) _ _ _ a6 [.int .i64 a6] from rfl) (Reps.one (show Kd.M (Kd.int .i64) _ _ _ aW [.int .i64 aW] from rfl) (Reps.one (show Kd.M (Kd.int .i64) _ _ _ aV [.int .i64 aV] from rfl) (Reps.none _ _)))))
     intro gt w44 ho45 hb hg_ hnew_
     clear hg_ hnew_
     (first | rw [← Ny228.out] at ho45 | (simp only [Int.reduceToNat] at ho45; rw [← Ny228.out] at ho45))
     have n0_ := am (rB ac.out hb)
     have n1_ := am (rB ad.out hb)
     have n2_ := am (Kd.R_lower ho45 (below_size (eT HB.out)))
     have n3_ := am (bB aa.out hb)
     have n4_ := am (bB ab.out hb)
     have n5_ := am (bB ak.out hb)
     have n6_ := am (bB al.out hb)
     have n7_ := am (sT HB.out hb)
     clear ac ad aa ab ak al HB
     have ac := n0_
     have ad := n1_
     have bZ := n2_
     have aa := n3_
     have ab := n4_
     have ak := n5_
     have al := n6_
     have HB := n7_
     clear n0_ n1_ n2_ n3_ n4_ n5_ n6_ n7_ hb ho45
     obtain ⟨eS, eV, c0⟩ := Kd.R_slice bZ.out
     (first | subst c0 | (injection c0 with f1_ f2_ f3_; have f4_ := f1_.symm; have f5_ := f3_.symm; clear f1_ f2_ f3_; subst f4_; subst f5_))
     refine hK.out _ _ ⟨(blk_cell ak.out 0).trans rfl, (blk_cell ak.out 1).trans rfl, (blk_cell ak.out 2).trans rfl, (blk_cell al.out 0).trans rfl, (blk_cell al.out 1).trans rfl, (blk_cell al.out 2).trans rfl⟩ (fun hHeld => ?_)
     clear hK K
     refine norm_ (a' := ?_) ?_ ?_
     rotate_left
     ·show Act.put _ (some 62) _ = _
      simp only [pS]
      rfl
     refine one_ (i := 16) (N := some 63) #[true, true, true, true, true, true, true, true, true, true, true, true, true, true, true, true, true, false, false] rfl rfl (one_of HT_.out (by kernel_rfl)) (by decide) (fun K hK => ?_)
     refine goes_ Tryd.func43 (by kernel_rfl) rfl #[.slice eS cS.length eV] (by rfl) rfl rfl (by (try simp only [List.map_toArray, List.map_cons, List.map_nil]); first | done | rfl | (simp only [List.length_drop, List.length_take]; rfl)) ?_
     with_reducible refine (cmp_Or_int.calls kj4 _ _ cS aX _ ?side1 ?side2 A21.out).mono ?_
     (case side1 => repeat (first | exact (Kd.R_reads' bZ.out).2.2 | (with_reducible refine Kd.C_alloc ?_ _) | (with_reducible refine Kd.C_drewN ?_ _) | (with_reducible refine Kd.C_drew ?_)))
     (case side2 => exact (Kd.R_reads' bZ.out).2.1)
     rintro e w' ⟨rfl, ⟨nd, rfl⟩⟩
     refine ⟨_, rfl, ?_⟩
     refine hK.out _ _ ⟨(blk_cell ak.out 0).trans rfl, (blk_cell ak.out 1).trans rfl, (blk_cell ak.out 2).trans rfl, (blk_cell al.out 0).trans rfl, (blk_cell al.out 1).trans rfl, (blk_cell al.out 2).trans rfl⟩ (fun hHeld => ?_)
     clear hK K
     refine norm_ (a' := ?_) ?_ ?_
     rotate_left
     ·show Act.put _ (some 63) _ = _
      simp only [pS]
      rfl
     refine pure_ (i := 17) (N := some 4) (v := ?_) (a' := ?_) #[true, true, true, true, true, true, true, true, true, true, true, true, true, true, true, true, true, true, false] rfl rfl (any_of HT_.out (by kernel_rfl)) (fun _ _ _ h => h) (Or.inl ⟨by rfl, ?_⟩) ?_ ?_
     rotate_left
     ·intro w'
      go_simp
      with_reducible rfl
     rotate_left
     ·simp only [pS]
      rfl
     refine pure_ (i := 18) (N := some 5) (v := ?_) (a' := ?_) #[true, true, true, true, true, true, true, true, true, true, true, true, true, true, true, true, true, true, true] rfl rfl (any_of HT_.out (by kernel_rfl)) (fun _ _ _ h => h) (Or.inl ⟨by rfl, ?_⟩) ?_ ?_
     rotate_left
     ·intro w'
      go_simp
      with_reducible rfl
     rotate_left
     ·simp only [pS]
      rfl
     refine done_ (done_of HT_.out (by kernel_rfl)) ?_
     try go_wp2
     go_ret2
     exact ⟨by first | rfl | (simp [errW_none, errW_some] <;> rfl) | (simp [*, errW_none, errW_some] <;> rfl), eT HB.out⟩
    ·rw [if_neg c17] at H
     have bX : (!(aA.toList == az.toList) || (!(aB.toList == aC.toList) || (!(aD.toList == aE.toList)))) = false := by simpa using c17
     clear c17
     have cT := Aside0.mk H
     clear H
     try go_wp2
     have n0_ := am (Kd.R_drew ac.out)
     have n1_ := am (Kd.R_drew ad.out)
     have n2_ := am (blk_drew aa.out)
     have n3_ := am (blk_drew ab.out)
     have n4_ := am (below_drew1 HB.out)
     clear ac ad aa ab HB
     have ac := n0_
     have ad := n1_
     have aa := n2_
     have ab := n3_
     have HB := n4_
     clear n0_ n1_ n2_ n3_ n4_
     refine start_ (n := 18) (S := fun w' => w'.cell? ⟨ao, 0, none⟩ = some (.string aA) ∧ w'.cell? ⟨ao, 1, none⟩ = some (.string aB) ∧ w'.cell? ⟨ao, 2, none⟩ = some (.string aD) ∧ w'.cell? ⟨ao, 3, none⟩ = some (.slice Ao9 ar.length co9) ∧ w'.cell? ⟨an, 0, none⟩ = some (.string az) ∧ w'.cell? ⟨an, 1, none⟩ = some (.string aC) ∧ w'.cell? ⟨an, 2, none⟩ = some (.string aE) ∧ w'.cell? ⟨an, 3, none⟩ = some (.slice aI au.length aH)) (ds := []) #[false, false, false, false, false, false, false, false, false, false, false, false, false, false, false, false, false, false] (by kernel_rfl) rfl rfl ⟨(blk_cell aa.out 0).trans rfl, (blk_cell aa.out 1).trans rfl, (blk_cell aa.out 2).trans rfl, (blk_cell aa.out 3).trans rfl, (blk_cell ab.out 0).trans rfl, (blk_cell ab.out 1).trans rfl, (blk_cell ab.out 2).trans rfl, (blk_cell ab.out 3).trans rfl⟩ (fun hHeld => ?_); refine with_tabW version_Cmp.tab5 version_Cmp.bits5 (fun HT_ HW_ => ?_)
     generalize wc.drew = w48 at ac ad aa ab HB hHeld ⊢
     refine pure_ (i := 0) (N := some 30) (v := ?_) (a' := ?_) #[true, false, false, false, false, false, false, false, false, false, false, false, false, false, false, false, false, false] rfl rfl (any_of HT_.out (by kernel_rfl)) (fun _ _ _ h => h) (Or.inl ⟨by rfl, ?_⟩) ?_ ?_
     rotate_left
     ·intro w'
      go_simp
      with_reducible rfl
     rotate_left
     ·simp only [pS]
      rfl
     refine pure_ (i := 2) (N := some 32) (v := ?_) (a' := ?_) #[true, false, true, false, false, false, false, false, false, false, false, false, false, false, false, false, false, false] rfl rfl (any_of HT_.out (by kernel_rfl)) (fun _ _ _ h => h) (Or.inl ⟨by rfl, ?_⟩) ?_ ?_
     rotate_left
     ·intro w'
      go_simp
      with_reducible rfl
     rotate_left
     ·simp only [pS]
      rfl
     refine pure_ (i := 4) (N := some 34) (v := ?_) (a' := ?_) #[true, false, true, false, true, false, false, false, false, false, false, false, false, false, false, false, false, false] rfl rfl (any_of HT_.out (by kernel_rfl)) (fun _ _ _ h => h) (Or.inl ⟨by rfl, ?_⟩) ?_ ?_
     rotate_left
     ·intro w'
      go_simp
      with_reducible rfl
     rotate_left
     ·simp only [pS]
      rfl
     refine pure_ (i := 7) (N := some 37) (v := ?_) (a' := ?_) #[true, false, true, false, true, false, false, true, false, false, false, false, false, false, false, false, false, false] rfl rfl (any_of HT_.out (by kernel_rfl)) (fun _ _ _ h => h) (Or.inl ⟨by rfl, ?_⟩) ?_ ?_
     rotate_left
     ·intro w'
      go_simp
      with_reducible rfl
     rotate_left
     ·simp only [pS]
      rfl
     refine pure_ (i := 9) (N := some 39) (v := ?_) (a' := ?_) #[true, false, true, false, true, false, false, true, false, true, false, false, false, false, false, false, false, false] rfl rfl (any_of HT_.out (by kernel_rfl)) (fun _ _ _ h => h) (Or.inl ⟨by rfl, ?_⟩) ?_ ?_
     rotate_left
     ·intro w'
      go_simp
      with_reducible rfl
     rotate_left
     ·simp only [pS]
      rfl
     refine pure_ (i := 11) (N := some 41) (v := ?_) (a' := ?_) #[true, false, true, false, true, false, false, true, false, true, false, true, false, false, false, false, false, false] rfl rfl (any_of HT_.out (by kernel_rfl)) (fun _ _ _ h => h) (Or.inl ⟨by rfl, ?_⟩) ?_ ?_
     rotate_left
     ·intro w'
      go_simp
      with_reducible rfl
     rotate_left
     ·simp only [pS]
      rfl
     refine take_ (i := 1) (N := some 31) (v := ?_) (a' := ?_) #[true, true, true, false, true, false, false, true, false, true, false, true, false, false, false, false, false, false] rfl rfl (take_ofW HT_.out HW_.out (by kernel_rfl)) (fun _ _ _ h => h) (Or.inl ⟨by rfl, ?_⟩) hHeld ?_ ?_
     rotate_left
     ·rintro w' ⟨s0, s1, s2, s3, s4, s5, s6, s7⟩
      go_simp
      with_reducible rfl
     rotate_left
     ·simp only [pS]
      rfl
     refine take_ (i := 3) (N := some 33) (v := ?_) (a' := ?_) #[true, true, true, true, true, false, false, true, false, true, false, true, false, false, false, false, false, false] rfl rfl (take_ofW HT_.out HW_.out (by kernel_rfl)) (fun _ _ _ h => h) (Or.inl ⟨by rfl, ?_⟩) hHeld ?_ ?_
     rotate_left
     ·rintro w' ⟨s0, s1, s2, s3, s4, s5, s6, s7⟩
      go_simp
      with_reducible rfl
     rotate_left
     ·simp only [pS]
      rfl
     refine take_ (i := 5) (N := some 35) (v := ?_) (a' := ?_) #[true, true, true, true, true, true, false, true, false, true, false, true, false, false, false, false, false, false] rfl rfl (take_ofW HT_.out HW_.out (by kernel_rfl)) (fun _ _ _ h => h) (Or.inl ⟨by rfl, ?_⟩) hHeld ?_ ?_
     rotate_left
     ·rintro w' ⟨s0, s1, s2, s3, s4, s5, s6, s7⟩
      go_simp
      with_reducible rfl
     rotate_left
     ·simp only [pS]
      rfl
     refine pure_ (i := 6) (N := some 36) (v := ?_) (a' := ?_) #[true, true, true, true, true, true, true, true, false, true, false, true, false, false, false, false, false, false] rfl rfl (any_of HT_.out (by kernel_rfl)) (fun _ _ _ h => h) (Or.inl ⟨by rfl, ?_⟩) ?_ ?_
     rotate_left
     ·intro w'
      go_simp
      with_reducible rfl
     rotate_left
     ·simp only [pS]
      rfl
     refine take_ (i := 8) (N := some 38) (v := ?_) (a' := ?_) #[true, true, true, true, true, true, true, true, true, true, false, true, false, false, false, false, false, false] rfl rfl (take_ofW HT_.out HW_.out (by kernel_rfl)) (fun _ _ _ h => h) (Or.inl ⟨by rfl, ?_⟩) hHeld ?_ ?_
     rotate_left
     ·rintro w' ⟨s0, s1, s2, s3, s4, s5, s6, s7⟩
      go_simp
      with_reducible rfl
     rotate_left
     ·simp only [pS]
      rfl
     refine take_ (i := 10) (N := some 40) (v := ?_) (a' := ?_) #[true, true, true, true, true, true, true, true, true, true, true, true, false, false, false, false, false, false] rfl rfl (take_ofW HT_.out HW_.out (by kernel_rfl)) (fun _ _ _ h => h) (Or.inl ⟨by rfl, ?_⟩) hHeld ?_ ?_
     rotate_left
     ·rintro w' ⟨s0, s1, s2, s3, s4, s5, s6, s7⟩
      go_simp
      with_reducible rfl
     rotate_left
     ·simp only [pS]
      rfl
     refine take_ (i := 12) (N := some 42) (v := ?_) (a' := ?_) #[true, true, true, true, true, true, true, true, true, true, true, true, true, false, false, false, false, false] rfl rfl (take_ofW HT_.out HW_.out (by kernel_rfl)) (fun _ _ _ h => h) (Or.inl ⟨by rfl, ?_⟩) hHeld ?_ ?_
     rotate_left
     ·rintro w' ⟨s0, s1, s2, s3, s4, s5, s6, s7⟩
      go_simp
      with_reducible rfl
     rotate_left
     ·simp only [pS]
      rfl
     refine pure_ (i := 13) (N := some 43) (v := ?_) (a' := ?_) #[true, true, true, true, true, true, true, true, true, true, true, true, true, true, false, false, false, false] rfl rfl (any_of HT_.out (by kernel_rfl)) (fun _ _ _ h => h) (Or.inl ⟨by rfl, ?_⟩) ?_ ?_
     rotate_left
     ·intro w'
      go_simp
      with_reducible rfl
     rotate_left
     ·simp only [pS]
      rfl
     refine join_ (σ := Nat × Nat) 2 #[true, true, true, true, true, true, true, true, true, true, true, true, true, true, true, true, false, false] (fun s_ => [(10, .pointer (some ⟨s_.1, 0, none⟩)), (11, .pointer (some ⟨s_.2, 0, none⟩))]) (fun s_ w' => (w'.cell? ⟨ao, 0, none⟩ = some (.string aA) ∧ w'.cell? ⟨ao, 1, none⟩ = some (.string aB) ∧ w'.cell? ⟨ao, 2, none⟩ = some (.string aD) ∧ w'.cell? ⟨ao, 3, none⟩ = some (.slice Ao9 ar.length co9) ∧ w'.cell? ⟨an, 0, none⟩ = some (.string az) ∧ w'.cell? ⟨an, 1, none⟩ = some (.string aC) ∧ w'.cell? ⟨an, 2, none⟩ = some (.string aE) ∧ w'.cell? ⟨an, 3, none⟩ = some (.slice aI au.length aH)) ∧ (Kd.R Kd.string 9 w' w.heap.size (fun k_ => some k_ ≠ (.slice aI au.length aH : Value).ownBlock) (.slice Ao9 ar.length co9) ar) ∧ (Kd.R Kd.string 9 w' w.heap.size (fun k_ => some k_ ≠ (.slice Ao9 ar.length co9 : Value).ownBlock) (.slice aI au.length aH) au) ∧ (w'.heap[ao]? = some (.cells #[.string aA, .string aB, .string aD, .slice Ao9 ar.length co9] 71 (0, 0))) ∧ (w'.heap[an]? = some (.cells #[.string az, .string aC, .string aE, .slice aI au.length aH] 71 (0, 0))) ∧ (w'.heap[s_.1]? = some (.cells #[.string (⟨#[]⟩ : ByteArray), .string (⟨#[]⟩ : ByteArray), .string (⟨#[]⟩ : ByteArray)] 76 (0, 0))) ∧ (w'.heap[s_.2]? = some (.cells #[.string (⟨#[]⟩ : ByteArray), .string (⟨#[]⟩ : ByteArray), .string (⟨#[]⟩ : ByteArray)] 76 (0, 0))) ∧ (w.heap.size ≤ s_.1) ∧ (w.heap.size ≤ s_.1) ∧ (ao ≠ s_.1) ∧ (s_.1 ≠ ao) ∧ (an ≠ s_.1) ∧ (s_.1 ≠ an) ∧ (s_.2 ≠ s_.1) ∧ (s_.1 ≠ s_.2) ∧ (w.heap.size ≤ s_.2) ∧ (w.heap.size ≤ s_.2) ∧ (ao ≠ s_.2) ∧ (s_.2 ≠ ao) ∧ (an ≠ s_.2) ∧ (s_.2 ≠ an) ∧ (Below w.heap.size w w')) ?_ ?_
     rotate_left
     ·intro hCont
      refine two_ (i := 14) (j := 15) (Ni := some 10) (Nj := some 11) #[true, true, true, true, true, true, true, true, true, true, true, true, true, true, true, false, false, false] #[true, true, true, true, true, true, true, true, true, true, true, true, true, true, false, true, false, false] rfl rfl rfl rfl (two_of HT_.out (by kernel_rfl)) (by decide) (by decide) (fun K hK => ?_) (fun K hK => ?_)
      ·skip
       refine box_step ?hg (N := 10) ?hd (cs := #[.string (⟨#[]⟩ : ByteArray), .string (⟨#[]⟩ : ByteArray), .string (⟨#[]⟩ : ByteArray)]) (t := 76) ?hr ?_; (case hd => rfl); (case hg => rfl); (case hr => first | (go_simp; done) | (go_simp; rfl))
       intro ae hg w49 hbox hb
       have n0_ := am (rB ac.out hb)
       have n1_ := am (rB ad.out hb)
       have n2_ := am (bB aa.out hb)
       have n3_ := am (bB ab.out hb)
       have n4_ := am (sT HB.out hb)
       have n5_ := am (hbox)
       have n6_ := am ((gT hg HB.out))
       have n7_ := am ((gT hg HB.out))
       have n8_ := am ((nT aa.out hg))
       have n9_ := am ((mT aa.out hg))
       have n10_ := am ((nT ab.out hg))
       have n11_ := am ((mT ab.out hg))
       clear ac ad aa ab HB
       have ac := n0_
       have ad := n1_
       have aa := n2_
       have ab := n3_
       have HB := n4_
       have ak := n5_
       have aY := n6_
       have aZ := n7_
       have ag := n8_
       have av := n9_
       have ai := n10_
       have ax := n11_
       clear n0_ n1_ n2_ n3_ n4_ n5_ n6_ n7_ n8_ n9_ n10_ n11_ hb hbox hg
       refine hK.out _ _ ⟨(blk_cell aa.out 0).trans rfl, (blk_cell aa.out 1).trans rfl, (blk_cell aa.out 2).trans rfl, (blk_cell aa.out 3).trans rfl, (blk_cell ab.out 0).trans rfl, (blk_cell ab.out 1).trans rfl, (blk_cell ab.out 2).trans rfl, (blk_cell ab.out 3).trans rfl⟩ (fun hHeld => ?_)
       clear hK K
       refine norm_ (a' := ?_) ?_ ?_
       rotate_left
       ·show Act.put _ (some 10) _ = _
        simp only [pS]
        rfl
       refine one_ (i := 15) (N := some 11) #[true, true, true, true, true, true, true, true, true, true, true, true, true, true, true, true, false, false] rfl rfl (one_of HT_.out (by kernel_rfl)) (by decide) (fun K hK => ?_)
       refine box_step ?hg (N := 11) ?hd (cs := #[.string (⟨#[]⟩ : ByteArray), .string (⟨#[]⟩ : ByteArray), .string (⟨#[]⟩ : ByteArray)]) (t := 76) ?hr ?_; (case hd => rfl); (case hg => rfl); (case hr => first | (go_simp; done) | (go_simp; rfl))
       intro af hg w50 hbox hb
       have n0_ := am (rB ac.out hb)
       have n1_ := am (rB ad.out hb)
       have n2_ := am (bB aa.out hb)
       have n3_ := am (bB ab.out hb)
       have n4_ := am (bB ak.out hb)
       have n5_ := am (sT HB.out hb)
       have n6_ := am (hbox)
       have n7_ := am ((gT hg HB.out))
       have n8_ := am ((gT hg HB.out))
       have n9_ := am ((nT aa.out hg))
       have n10_ := am ((mT aa.out hg))
       have n11_ := am ((nT ab.out hg))
       have n12_ := am ((mT ab.out hg))
       have n13_ := am ((nT ak.out hg))
       have n14_ := am ((mT ak.out hg))
       clear ac ad aa ab ak HB
       have ac := n0_
       have ad := n1_
       have aa := n2_
       have ab := n3_
       have ak := n4_
       have HB := n5_
       have al := n6_
       have a2 := n7_
       have a3 := n8_
       have ah := n9_
       have aw := n10_
       have aj := n11_
       have ay := n12_
       have ap := n13_
       have aq := n14_
       clear n0_ n1_ n2_ n3_ n4_ n5_ n6_ n7_ n8_ n9_ n10_ n11_ n12_ n13_ n14_ hb hbox hg
       refine hK.out _ _ ⟨(blk_cell aa.out 0).trans rfl, (blk_cell aa.out 1).trans rfl, (blk_cell aa.out 2).trans rfl, (blk_cell aa.out 3).trans rfl, (blk_cell ab.out 0).trans rfl, (blk_cell ab.out 1).trans rfl, (blk_cell ab.out 2).trans rfl, (blk_cell ab.out 3).trans rfl⟩ (fun hHeld => ?_)
       clear hK K
       refine norm_ (a' := ?_) ?_ ?_
       rotate_left
       ·show Act.put _ (some 11) _ = _
        simp only [pS]
        rfl
       exact norm_ (by simp only [putAll, Act.put, List.setIfInBounds_toArray, List.set_cons_zero, List.set_cons_succ]) (hCont (ae, af) _ ⟨hHeld, (rT ac.out), (rT ad.out), (bT aa.out), (bT ab.out), (bT ak.out), (bT al.out), aY.out, aZ.out, ag.out, av.out, ai.out, ax.out, aq.out, ap.out, a2.out, a3.out, ah.out, aw.out, aj.out, ay.out, (eT HB.out)⟩)
      ·skip
       refine box_step ?hg (N := 11) ?hd (cs := #[.string (⟨#[]⟩ : ByteArray), .string (⟨#[]⟩ : ByteArray), .string (⟨#[]⟩ : ByteArray)]) (t := 76) ?hr ?_; (case hd => rfl); (case hg => rfl); (case hr => first | (go_simp; done) | (go_simp; rfl))
       intro af hg w49 hbox hb
       have n0_ := am (rB ac.out hb)
       have n1_ := am (rB ad.out hb)
       have n2_ := am (bB aa.out hb)
       have n3_ := am (bB ab.out hb)
       have n4_ := am (sT HB.out hb)
       have n5_ := am (hbox)
       have n6_ := am ((gT hg HB.out))
       have n7_ := am ((gT hg HB.out))
       have n8_ := am ((nT aa.out hg))
       have n9_ := am ((mT aa.out hg))
       have n10_ := am ((nT ab.out hg))
       have n11_ := am ((mT ab.out hg))
       clear ac ad aa ab HB
       have ac := n0_
       have ad := n1_
       have aa := n2_
       have ab := n3_
       have HB := n4_
       have al := n5_
       have a2 := n6_
       have a3 := n7_
       have ah := n8_
       have aw := n9_
       have aj := n10_
       have ay := n11_
       clear n0_ n1_ n2_ n3_ n4_ n5_ n6_ n7_ n8_ n9_ n10_ n11_ hb hbox hg
       refine hK.out _ _ ⟨(blk_cell aa.out 0).trans rfl, (blk_cell aa.out 1).trans rfl, (blk_cell aa.out 2).trans rfl, (blk_cell aa.out 3).trans rfl, (blk_cell ab.out 0).trans rfl, (blk_cell ab.out 1).trans rfl, (blk_cell ab.out 2).trans rfl, (blk_cell ab.out 3).trans rfl⟩ (fun hHeld => ?_)
       clear hK K
       refine norm_ (a' := ?_) ?_ ?_
       rotate_left
       ·show Act.put _ (some 11) _ = _
        simp only [pS]
        rfl
       refine one_ (i := 14) (N := some 10) #[true, true, true, true, true, true, true, true, true, true, true, true, true, true, true, true, false, false] rfl rfl (one_of HT_.out (by kernel_rfl)) (by decide) (fun K hK => ?_)
       refine box_step ?hg (N := 10) ?hd (cs := #[.string (⟨#[]⟩ : ByteArray), .string (⟨#[]⟩ : ByteArray), .string (⟨#[]⟩ : ByteArray)]) (t := 76) ?hr ?_; (case hd => rfl); (case hg => rfl); (case hr => first | (go_simp; done) | (go_simp; rfl))
       intro ae hg w50 hbox hb
       have n0_ := am (rB ac.out hb)
       have n1_ := am (rB ad.out hb)
       have n2_ := am (bB aa.out hb)
       have n3_ := am (bB ab.out hb)
       have n4_ := am (bB al.out hb)
       have n5_ := am (sT HB.out hb)
       have n6_ := am (hbox)
       have n7_ := am ((gT hg HB.out))
       have n8_ := am ((gT hg HB.out))
       have n9_ := am ((nT aa.out hg))
       have n10_ := am ((mT aa.out hg))
       have n11_ := am ((nT ab.out hg))
       have n12_ := am ((mT ab.out hg))
       have n13_ := am ((nT al.out hg))
       have n14_ := am ((mT al.out hg))
       clear ac ad aa ab al HB
       have ac := n0_
       have ad := n1_
       have aa := n2_
       have ab := n3_
       have al := n4_
       have HB := n5_
       have ak := n6_
       have aY := n7_
       have aZ := n8_
       have ag := n9_
       have av := n10_
       have ai := n11_
       have ax := n12_
       have aq := n13_
       have ap := n14_
       clear n0_ n1_ n2_ n3_ n4_ n5_ n6_ n7_ n8_ n9_ n10_ n11_ n12_ n13_ n14_ hb hbox hg
       refine hK.out _ _ ⟨(blk_cell aa.out 0).trans rfl, (blk_cell aa.out 1).trans rfl, (blk_cell aa.out 2).trans rfl, (blk_cell aa.out 3).trans rfl, (blk_cell ab.out 0).trans rfl, (blk_cell ab.out 1).trans rfl, (blk_cell ab.out 2).trans rfl, (blk_cell ab.out 3).trans rfl⟩ (fun hHeld => ?_)
       clear hK K
       refine norm_ (a' := ?_) ?_ ?_
       rotate_left
       ·show Act.put _ (some 10) _ = _
        simp only [pS]
        rfl
       exact norm_ (by simp only [putAll, Act.put, List.setIfInBounds_toArray, List.set_cons_zero, List.set_cons_succ]) (hCont (ae, af) _ ⟨hHeld, (rT ac.out), (rT ad.out), (bT aa.out), (bT ab.out), (bT ak.out), (bT al.out), aY.out, aZ.out, ag.out, av.out, ai.out, ax.out, aq.out, ap.out, a2.out, a3.out, ah.out, aw.out, aj.out, ay.out, (eT HB.out)⟩)
     rintro ⟨ae, af⟩ w51 ⟨hS_, h0_, h1_, h2_, h3_, h4_, h5_, h6_, h7_, h8_, h9_, h10_, h11_, h12_, h13_, h14_, h15_, h16_, h17_, h18_, h19_, h20_⟩
     have n0_ : Aside0 (Kd.R Kd.string 9 w51 w.heap.size (fun k_ => some k_ ≠ (.slice aI au.length aH : Value).ownBlock) (.slice Ao9 ar.length co9) ar) := ⟨h0_⟩
     have n1_ : Aside0 (Kd.R Kd.string 9 w51 w.heap.size (fun k_ => some k_ ≠ (.slice Ao9 ar.length co9 : Value).ownBlock) (.slice aI au.length aH) au) := ⟨h1_⟩
     have n2_ : Aside0 (w51.heap[ao]? = some (.cells #[.string aA, .string aB, .string aD, .slice Ao9 ar.length co9] 71 (0, 0))) := ⟨h2_⟩
     have n3_ : Aside0 (w51.heap[an]? = some (.cells #[.string az, .string aC, .string aE, .slice aI au.length aH] 71 (0, 0))) := ⟨h3_⟩
     have n4_ : Aside0 (w51.heap[ae]? = some (.cells #[.string (⟨#[]⟩ : ByteArray), .string (⟨#[]⟩ : ByteArray), .string (⟨#[]⟩ : ByteArray)] 76 (0, 0))) := ⟨h4_⟩
     have n5_ : Aside0 (w51.heap[af]? = some (.cells #[.string (⟨#[]⟩ : ByteArray), .string (⟨#[]⟩ : ByteArray), .string (⟨#[]⟩ : ByteArray)] 76 (0, 0))) := ⟨h5_⟩
     have n6_ : Aside0 (w.heap.size ≤ ae) := ⟨h6_⟩
     have n7_ : Aside0 (w.heap.size ≤ ae) := ⟨h7_⟩
     have n8_ : Aside0 (ao ≠ ae) := ⟨h8_⟩
     have n9_ : Aside0 (ae ≠ ao) := ⟨h9_⟩
     have n10_ : Aside0 (an ≠ ae) := ⟨h10_⟩
     have n11_ : Aside0 (ae ≠ an) := ⟨h11_⟩
     have n12_ : Aside0 (af ≠ ae) := ⟨h12_⟩
     have n13_ : Aside0 (ae ≠ af) := ⟨h13_⟩
     have n14_ : Aside0 (w.heap.size ≤ af) := ⟨h14_⟩
     have n15_ : Aside0 (w.heap.size ≤ af) := ⟨h15_⟩
     have n16_ : Aside0 (ao ≠ af) := ⟨h16_⟩
     have n17_ : Aside0 (af ≠ ao) := ⟨h17_⟩
     have n18_ : Aside0 (an ≠ af) := ⟨h18_⟩
     have n19_ : Aside0 (af ≠ an) := ⟨h19_⟩
     have n20_ : Aside0 (Below w.heap.size w w51) := ⟨h20_⟩
     clear ac ad aa ab HB h0_ h1_ h2_ h3_ h4_ h5_ h6_ h7_ h8_ h9_ h10_ h11_ h12_ h13_ h14_ h15_ h16_ h17_ h18_ h19_ h20_
     have ac := n0_
     have ad := n1_
     have aa := n2_
     have ab := n3_
     have ak := n4_
     have al := n5_
     have aY := n6_
     have aZ := n7_
     have ag := n8_
     have av := n9_
     have ai := n10_
     have ax := n11_
     have aq := n12_
     have ap := n13_
     have a2 := n14_
     have a3 := n15_
     have ah := n16_
     have aw := n17_
     have aj := n18_
     have ay := n19_
     have HB := n20_
     clear n0_ n1_ n2_ n3_ n4_ n5_ n6_ n7_ n8_ n9_ n10_ n11_ n12_ n13_ n14_ n15_ n16_ n17_ n18_ n19_ n20_
     have hHeld : w51.cell? ⟨ao, 0, none⟩ = some (.string aA) ∧ w51.cell? ⟨ao, 1, none⟩ = some (.string aB) ∧ w51.cell? ⟨ao, 2, none⟩ = some (.string aD) ∧ w51.cell? ⟨ao, 3, none⟩ = some (.slice Ao9 ar.length co9) ∧ w51.cell? ⟨an, 0, none⟩ = some (.string az) ∧ w51.cell? ⟨an, 1, none⟩ = some (.string aC) ∧ w51.cell? ⟨an, 2, none⟩ = some (.string aE) ∧ w51.cell? ⟨an, 3, none⟩ = some (.slice aI au.length aH) := hS_
     refine norm_ (a' := ?_) ?_ ?_
     rotate_left
     ·simp only [putAll, Act.put, List.setIfInBounds_toArray, List.set_cons_zero, List.set_cons_succ]
      rfl
     refine one_ (i := 16) (N := none) #[true, true, true, true, true, true, true, true, true, true, true, true, true, true, true, true, true, false] rfl rfl (one_of HT_.out (by kernel_rfl)) (by decide) (fun K hK => ?_)
     have gu : w51.cell? ⟨ae, 0, none⟩ = some (.string (⟨#[]⟩ : ByteArray)) := (blk_cell ak.out 0).trans rfl
     have fs := blk_frozen ak.out 0
     have eh := ag.out
     have ei := ai.out
     have ej := aq.out
     have ek := av.out
     have el := ax.out
     have em := ap.out
     have gv : w51.cell? ⟨ae, 1, none⟩ = some (.string (⟨#[]⟩ : ByteArray)) := (blk_cell ak.out 1).trans rfl
     have ft := blk_frozen ak.out 1
     have en := ag.out
     have eo := ai.out
     have ep := aq.out
     have eq := av.out
     have er := ax.out
     have es := ap.out
     have gw : w51.cell? ⟨ae, 2, none⟩ = some (.string (⟨#[]⟩ : ByteArray)) := (blk_cell ak.out 2).trans rfl
     have fu := blk_frozen ak.out 2
     have et := ag.out
     have eu := ai.out
     have ev := aq.out
     have ew := av.out
     have ex := ax.out
     have ey := ap.out
     refine skip_ (w1 := ?_) (by rfl) rfl ?_ ?_
     rotate_left
     ·go_simp
      rfl
     refine hK.out _ _ ⟨((cell_far (p := ⟨ae, _, none⟩) ag.out _).trans (((cell_far (p := ⟨ae, _, none⟩) ag.out _).trans (((cell_far (p := ⟨ae, _, none⟩) ag.out _).trans (hHeld.1)))))), ((cell_far (p := ⟨ae, _, none⟩) ag.out _).trans (((cell_far (p := ⟨ae, _, none⟩) ag.out _).trans (((cell_far (p := ⟨ae, _, none⟩) ag.out _).trans (hHeld.2.1)))))), ((cell_far (p := ⟨ae, _, none⟩) ag.out _).trans (((cell_far (p := ⟨ae, _, none⟩) ag.out _).trans (((cell_far (p := ⟨ae, _, none⟩) ag.out _).trans (hHeld.2.2.1)))))), ((cell_far (p := ⟨ae, _, none⟩) ag.out _).trans (((cell_far (p := ⟨ae, _, none⟩) ag.out _).trans (((cell_far (p := ⟨ae, _, none⟩) ag.out _).trans (hHeld.2.2.2.1)))))), ((cell_far (p := ⟨ae, _, none⟩) ai.out _).trans (((cell_far (p := ⟨ae, _, none⟩) ai.out _).trans (((cell_far (p := ⟨ae, _, none⟩) ai.out _).trans (hHeld.2.2.2.2.1)))))), ((cell_far (p := ⟨ae, _, none⟩) ai.out _).trans (((cell_far (p := ⟨ae, _, none⟩) ai.out _).trans (((cell_far (p := ⟨ae, _, none⟩) ai.out _).trans (hHeld.2.2.2.2.2.1)))))), ((cell_far (p := ⟨ae, _, none⟩) ai.out _).trans (((cell_far (p := ⟨ae, _, none⟩) ai.out _).trans (((cell_far (p := ⟨ae, _, none⟩) ai.out _).trans (hHeld.2.2.2.2.2.2.1)))))), ((cell_far (p := ⟨ae, _, none⟩) ai.out _).trans (((cell_far (p := ⟨ae, _, none⟩) ai.out _).trans (((cell_far (p := ⟨ae, _, none⟩) ai.out _).trans (hHeld.2.2.2.2.2.2.2))))))⟩ (fun hHeld => ?_)
     clear hK K
     refine one_ (i := 17) (N := none) #[true, true, true, true, true, true, true, true, true, true, true, true, true, true, true, true, true, true] rfl rfl (one_of HT_.out (by kernel_rfl)) (by decide) (fun K hK => ?_)
     have gx : w51.cell? ⟨af, 0, none⟩ = some (.string (⟨#[]⟩ : ByteArray)) := (blk_cell al.out 0).trans rfl
     have fv := blk_frozen al.out 0
     have ez := ah.out
     have eA := aj.out
     have eB := ap.out
     have eC := aw.out
     have eD := ay.out
     have eE := aq.out
     have gy : w51.cell? ⟨af, 1, none⟩ = some (.string (⟨#[]⟩ : ByteArray)) := (blk_cell al.out 1).trans rfl
     have fw := blk_frozen al.out 1
     have eF := ah.out
     have eG := aj.out
     have eH := ap.out
     have eI := aw.out
     have eJ := ay.out
     have eK := aq.out
     have gz : w51.cell? ⟨af, 2, none⟩ = some (.string (⟨#[]⟩ : ByteArray)) := (blk_cell al.out 2).trans rfl
     have fx := blk_frozen al.out 2
     have eL := ah.out
     have eM := aj.out
     have eN := ap.out
     have eO := aw.out
     have eP := ay.out
     have eQ := aq.out
     refine skip_ (w1 := ?_) (by rfl) rfl ?_ ?_
     rotate_left
     ·go_simp
      rfl
     refine hK.out _ _ ⟨((cell_far (p := ⟨af, _, none⟩) ah.out _).trans (((cell_far (p := ⟨af, _, none⟩) ah.out _).trans (((cell_far (p := ⟨af, _, none⟩) ah.out _).trans (hHeld.1)))))), ((cell_far (p := ⟨af, _, none⟩) ah.out _).trans (((cell_far (p := ⟨af, _, none⟩) ah.out _).trans (((cell_far (p := ⟨af, _, none⟩) ah.out _).trans (hHeld.2.1)))))), ((cell_far (p := ⟨af, _, none⟩) ah.out _).trans (((cell_far (p := ⟨af, _, none⟩) ah.out _).trans (((cell_far (p := ⟨af, _, none⟩) ah.out _).trans (hHeld.2.2.1)))))), ((cell_far (p := ⟨af, _, none⟩) ah.out _).trans (((cell_far (p := ⟨af, _, none⟩) ah.out _).trans (((cell_far (p := ⟨af, _, none⟩) ah.out _).trans (hHeld.2.2.2.1)))))), ((cell_far (p := ⟨af, _, none⟩) aj.out _).trans (((cell_far (p := ⟨af, _, none⟩) aj.out _).trans (((cell_far (p := ⟨af, _, none⟩) aj.out _).trans (hHeld.2.2.2.2.1)))))), ((cell_far (p := ⟨af, _, none⟩) aj.out _).trans (((cell_far (p := ⟨af, _, none⟩) aj.out _).trans (((cell_far (p := ⟨af, _, none⟩) aj.out _).trans (hHeld.2.2.2.2.2.1)))))), ((cell_far (p := ⟨af, _, none⟩) aj.out _).trans (((cell_far (p := ⟨af, _, none⟩) aj.out _).trans (((cell_far (p := ⟨af, _, none⟩) aj.out _).trans (hHeld.2.2.2.2.2.2.1)))))), ((cell_far (p := ⟨af, _, none⟩) aj.out _).trans (((cell_far (p := ⟨af, _, none⟩) aj.out _).trans (((cell_far (p := ⟨af, _, none⟩) aj.out _).trans (hHeld.2.2.2.2.2.2.2))))))⟩ (fun hHeld => ?_)
     clear hK K
     refine done_ (done_of HT_.out (by kernel_rfl)) ?_
     have fy := av.out
     have fz := ag.out
     have fA := ax.out
     have fB := ai.out
     have fC := ap.out
     have fD := aq.out
     have bi : w51.cell? ⟨ae, 0, none⟩ = some (.string (⟨#[]⟩ : ByteArray)) := (blk_cell ak.out 0).trans rfl
     have bj : w51.cell? ⟨ae, 1, none⟩ = some (.string (⟨#[]⟩ : ByteArray)) := (blk_cell ak.out 1).trans rfl
     have bk : w51.cell? ⟨ae, 2, none⟩ = some (.string (⟨#[]⟩ : ByteArray)) := (blk_cell ak.out 2).trans rfl
     have bl := blk_frozen ak.out 0
     have bm := blk_frozen ak.out 1
     have bo := blk_frozen ak.out 2
     have fE := aw.out
     have fF := ah.out
     have fG := ay.out
     have fH := aj.out
     have bp : w51.cell? ⟨af, 0, none⟩ = some (.string (⟨#[]⟩ : ByteArray)) := (blk_cell al.out 0).trans rfl
     have bq : w51.cell? ⟨af, 1, none⟩ = some (.string (⟨#[]⟩ : ByteArray)) := (blk_cell al.out 1).trans rfl
     have br : w51.cell? ⟨af, 2, none⟩ = some (.string (⟨#[]⟩ : ByteArray)) := (blk_cell al.out 2).trans rfl
     have bs := blk_frozen al.out 0
     have bt := blk_frozen al.out 1
     have bu := blk_frozen al.out 2
     go_upto_region 8 with (fail)
     go_cut [73] (fun v73 wc => ∃ (kq : Nat) (a_ : Bool), v73 = .bool a_ ∧ Aside0 (version_Cmp.j1 kq a_ aA aB aD ar az aC aE au = some (r1, r2)) ∧ Aside0 (kq ≤ kj4) ∧ Aside0 (Kd.R Kd.string 9 wc w.heap.size (fun k_ => some k_ ≠ ((.slice aI au.length aH) : Value).ownBlock) (.slice Ao9 ar.length co9) ar) ∧ Aside0 (Kd.R Kd.string 9 wc w.heap.size (fun k_ => some k_ ≠ ((.slice Ao9 ar.length co9) : Value).ownBlock) (.slice aI au.length aH) au) ∧ Aside0 (wc.heap[ao]? = some (.cells #[.string aA, .string aB, .string aD, (.slice Ao9 ar.length co9)] 71 (0, 0))) ∧ Aside0 (wc.heap[an]? = some (.cells #[.string az, .string aC, .string aE, (.slice aI au.length aH)] 71 (0, 0))) ∧ Aside0 (wc.heap[ae]? = some (.cells #[.string aA, .string aB, .string aD] 76 (0, 0))) ∧ Aside0 (wc.heap[af]? = some (.cells #[.string az, .string aC, .string aE] 76 (0, 0))) ∧ Aside0 (Below w.heap.size w wc))
     case first =>
      have H := cT.out
      clear cT
      by_cases c65 : (ar.length : Int) = 0
      ·rw [if_pos c65] at H
       have a8 : ((ar.length : Int) == 0) = true := beq_iff_eq.mpr c65
       have b0 : ((ar.length : Int) != 0) = false := bne_eq_false_iff_eq.mpr c65
       clear c65
       (first | rw [a8] | (simp only [i64_w, i32_w]; rw [a8]) | skip)
       have H' := Aside0.mk H
       clear H
       have fI := aG.out
       have fJ := aL.out
       have fK := ag.out
       have fL := av.out
       have fM := ah.out
       have fN := aw.out
       have bv : w51.cell? ⟨ao, 0, none⟩ = some (.string aA) := (blk_cell aa.out 0).trans rfl
       have bw : w51.cell? ⟨ao, 1, none⟩ = some (.string aB) := (blk_cell aa.out 1).trans rfl
       have bx : w51.cell? ⟨ao, 2, none⟩ = some (.string aD) := (blk_cell aa.out 2).trans rfl
       have bz : w51.cell? ⟨ao, 3, none⟩ = some (.slice Ao9 ar.length co9) := (blk_cell aa.out 3).trans rfl
       have bA := blk_frozen aa.out 0
       have bC := blk_frozen aa.out 1
       have bD := blk_frozen aa.out 2
       have bE := blk_frozen aa.out 3
       go_wp2
       go_meet
       case rel => exact ⟨_, (true), (by first | rfl | (simp; done) | (simp [*]; done)), H', ⟨by have := HJ4.out; first | omega | exact Nat.le_refl _⟩, ⟨by (with_reducible repeat (first | apply Kd.R_alloc | apply Kd.R_drewN | apply Kd.R_drew)); exact Kd.R_mono (Kd.R_far (p := ⟨af, 2, none⟩) (Kd.R_far (p := ⟨af, 1, none⟩) (Kd.R_far (p := ⟨af, 0, none⟩) (Kd.R_far (p := ⟨ae, 2, none⟩) (Kd.R_far (p := ⟨ae, 1, none⟩) (Kd.R_far (p := ⟨ae, 0, none⟩) (Kd.R_types (Kd.R_types ac.out ak.out (by decide)) al.out (by decide)) (fun _ hk => hk.1.2) (.string aA)) (fun _ hk => hk.1.2) (.string aB)) (fun _ hk => hk.1.2) (.string aD)) (fun _ hk => hk.2) (.string az)) (fun _ hk => hk.2) (.string aC)) (fun _ hk => hk.2) (.string aE)) (fun _ hk => hk.1.1)⟩, ⟨by (with_reducible repeat (first | apply Kd.R_alloc | apply Kd.R_drewN | apply Kd.R_drew)); exact Kd.R_mono (Kd.R_far (p := ⟨af, 2, none⟩) (Kd.R_far (p := ⟨af, 1, none⟩) (Kd.R_far (p := ⟨af, 0, none⟩) (Kd.R_far (p := ⟨ae, 2, none⟩) (Kd.R_far (p := ⟨ae, 1, none⟩) (Kd.R_far (p := ⟨ae, 0, none⟩) (Kd.R_types (Kd.R_types ad.out ak.out (by decide)) al.out (by decide)) (fun _ hk => hk.1.2) (.string aA)) (fun _ hk => hk.1.2) (.string aB)) (fun _ hk => hk.1.2) (.string aD)) (fun _ hk => hk.2) (.string az)) (fun _ hk => hk.2) (.string aC)) (fun _ hk => hk.2) (.string aE)) (fun _ hk => hk.1.1)⟩, ⟨by (with_reducible repeat (first | apply bn | apply bd | apply ba)); refine blk_far ?_ ah.out _; (with_reducible repeat (first | apply bn | apply bd | apply ba)); refine blk_far ?_ ah.out _; (with_reducible repeat (first | apply bn | apply bd | apply ba)); refine blk_far ?_ ah.out _; (with_reducible repeat (first | apply bn | apply bd | apply ba)); refine blk_far ?_ ag.out _; (with_reducible repeat (first | apply bn | apply bd | apply ba)); refine blk_far ?_ ag.out _; (with_reducible repeat (first | apply bn | apply bd | apply ba)); refine blk_far ?_ ag.out _; exact bT aa.out⟩, ⟨by (with_reducible repeat (first | apply bn | apply bd | apply ba)); refine blk_far ?_ aj.out _; (with_reducible repeat (first | apply bn | apply bd | apply ba)); refine blk_far ?_ aj.out _; (with_reducible repeat (first | apply bn | apply bd | apply ba)); refine blk_far ?_ aj.out _; (with_reducible repeat (first | apply bn | apply bd | apply ba)); refine blk_far ?_ ai.out _; (with_reducible repeat (first | apply bn | apply bd | apply ba)); refine blk_far ?_ ai.out _; (with_reducible repeat (first | apply bn | apply bd | apply ba)); refine blk_far ?_ ai.out _; exact bT ab.out⟩, ⟨by (with_reducible repeat (first | apply bn | apply bd | apply ba)); refine blk_far ?_ ap.out _; (with_reducible repeat (first | apply bn | apply bd | apply ba)); refine blk_far ?_ ap.out _; (with_reducible repeat (first | apply bn | apply bd | apply ba)); refine blk_far ?_ ap.out _; (with_reducible repeat (first | apply bn | apply bd | apply ba)); refine blk_put (cs := #[.string aA, .string aB, .string (⟨#[]⟩ : ByteArray)]) ?_ 2 _ rfl; (with_reducible repeat (first | apply bn | apply bd | apply ba)); refine blk_put (cs := #[.string aA, .string (⟨#[]⟩ : ByteArray), .string (⟨#[]⟩ : ByteArray)]) ?_ 1 _ rfl; (with_reducible repeat (first | apply bn | apply bd | apply ba)); refine blk_put (cs := #[.string (⟨#[]⟩ : ByteArray), .string (⟨#[]⟩ : ByteArray), .string (⟨#[]⟩ : ByteArray)]) ?_ 0 _ rfl; exact bT ak.out⟩, ⟨by (with_reducible repeat (first | apply bn | apply bd | apply ba)); refine blk_put (cs := #[.string az, .string aC, .string (⟨#[]⟩ : ByteArray)]) ?_ 2 _ rfl; (with_reducible repeat (first | apply bn | apply bd | apply ba)); refine blk_put (cs := #[.string az, .string (⟨#[]⟩ : ByteArray), .string (⟨#[]⟩ : ByteArray)]) ?_ 1 _ rfl; (with_reducible repeat (first | apply bn | apply bd | apply ba)); refine blk_put (cs := #[.string (⟨#[]⟩ : ByteArray), .string (⟨#[]⟩ : ByteArray), .string (⟨#[]⟩ : ByteArray)]) ?_ 0 _ rfl; (with_reducible repeat (first | apply bn | apply bd | apply ba)); refine blk_far ?_ aq.out _; (with_reducible repeat (first | apply bn | apply bd | apply ba)); refine blk_far ?_ aq.out _; (with_reducible repeat (first | apply bn | apply bd | apply ba)); refine blk_far ?_ aq.out _; exact bT al.out⟩, ⟨by repeat (first | (with_reducible first | exact HB.out | apply pA | apply pN | apply pD | refine eU ?_ (by assumption)) | exact HB.out)⟩⟩
      ·rw [if_neg c65] at H
       have a8 : ((ar.length : Int) == 0) = false := beq_eq_false_iff_ne.mpr c65
       have b0 : ((ar.length : Int) != 0) = true := bne_iff_ne.mpr c65
       have cH : ¬ (ar = []) := fun h_ => c65 (by rw [h_]; rfl)
       (first | rw [a8] | (simp only [i64_w, i32_w]; rw [a8]) | skip)
       have H' := Aside0.mk H
       clear H
       have fO := aG.out
       have fP := aL.out
       have fQ := ag.out
       have fR := av.out
       have fS := ah.out
       have fT := aw.out
       have bF : w51.cell? ⟨ao, 0, none⟩ = some (.string aA) := (blk_cell aa.out 0).trans rfl
       have bG : w51.cell? ⟨ao, 1, none⟩ = some (.string aB) := (blk_cell aa.out 1).trans rfl
       have bH : w51.cell? ⟨ao, 2, none⟩ = some (.string aD) := (blk_cell aa.out 2).trans rfl
       have bI : w51.cell? ⟨ao, 3, none⟩ = some (.slice Ao9 ar.length co9) := (blk_cell aa.out 3).trans rfl
       have bJ := blk_frozen aa.out 0
       have bK := blk_frozen aa.out 1
       have bL := blk_frozen aa.out 2
       have bM := blk_frozen aa.out 3
       have fU := ai.out
       have fV := ax.out
       have fW := aj.out
       have fX := ay.out
       have bN : w51.cell? ⟨an, 0, none⟩ = some (.string az) := (blk_cell ab.out 0).trans rfl
       have bO : w51.cell? ⟨an, 1, none⟩ = some (.string aC) := (blk_cell ab.out 1).trans rfl
       have bP : w51.cell? ⟨an, 2, none⟩ = some (.string aE) := (blk_cell ab.out 2).trans rfl
       have bQ : w51.cell? ⟨an, 3, none⟩ = some (.slice aI au.length aH) := (blk_cell ab.out 3).trans rfl
       have bR := blk_frozen ab.out 0
       have bS := blk_frozen ab.out 1
       have bU := blk_frozen ab.out 2
       have bV := blk_frozen ab.out 3
       go_wp2
       go_meet
       case rel => exact ⟨_, (((au.length : Int) == 0)), (by first | rfl | (simp; done) | (simp [*]; done)), H', ⟨by have := HJ4.out; first | omega | exact Nat.le_refl _⟩, ⟨by (with_reducible repeat (first | apply Kd.R_alloc | apply Kd.R_drewN | apply Kd.R_drew)); exact Kd.R_mono (Kd.R_far (p := ⟨af, 2, none⟩) (Kd.R_far (p := ⟨af, 1, none⟩) (Kd.R_far (p := ⟨af, 0, none⟩) (Kd.R_far (p := ⟨ae, 2, none⟩) (Kd.R_far (p := ⟨ae, 1, none⟩) (Kd.R_far (p := ⟨ae, 0, none⟩) (Kd.R_types (Kd.R_types ac.out ak.out (by decide)) al.out (by decide)) (fun _ hk => hk.1.2) (.string aA)) (fun _ hk => hk.1.2) (.string aB)) (fun _ hk => hk.1.2) (.string aD)) (fun _ hk => hk.2) (.string az)) (fun _ hk => hk.2) (.string aC)) (fun _ hk => hk.2) (.string aE)) (fun _ hk => hk.1.1)⟩, ⟨by (with_reducible repeat (first | apply Kd.R_alloc | apply Kd.R_drewN | apply Kd.R_drew)); exact Kd.R_mono (Kd.R_far (p := ⟨af, 2, none⟩) (Kd.R_far (p := ⟨af, 1, none⟩) (Kd.R_far (p := ⟨af, 0, none⟩) (Kd.R_far (p := ⟨ae, 2, none⟩) (Kd.R_far (p := ⟨ae, 1, none⟩) (Kd.R_far (p := ⟨ae, 0, none⟩) (Kd.R_types (Kd.R_types ad.out ak.out (by decide)) al.out (by decide)) (fun _ hk => hk.1.2) (.string aA)) (fun _ hk => hk.1.2) (.string aB)) (fun _ hk => hk.1.2) (.string aD)) (fun _ hk => hk.2) (.string az)) (fun _ hk => hk.2) (.string aC)) (fun _ hk => hk.2) (.string aE)) (fun _ hk => hk.1.1)⟩, ⟨by (with_reducible repeat (first | apply bn | apply bd | apply ba)); refine blk_far ?_ ah.out _; (with_reducible repeat (first | apply bn | apply bd | apply ba)); refine blk_far ?_ ah.out _; (with_reducible repeat (first | apply bn | apply bd | apply ba)); refine blk_far ?_ ah.out _; (with_reducible repeat (first | apply bn | apply bd | apply ba)); refine blk_far ?_ ag.out _; (with_reducible repeat (first | apply bn | apply bd | apply ba)); refine blk_far ?_ ag.out _; (with_reducible repeat (first | apply bn | apply bd | apply ba)); refine blk_far ?_ ag.out _; exact bT aa.out⟩, ⟨by (with_reducible repeat (first | apply bn | apply bd | apply ba)); refine blk_far ?_ aj.out _; (with_reducible repeat (first | apply bn | apply bd | apply ba)); refine blk_far ?_ aj.out _; (with_reducible repeat (first | apply bn | apply bd | apply ba)); refine blk_far ?_ aj.out _; (with_reducible repeat (first | apply bn | apply bd | apply ba)); refine blk_far ?_ ai.out _; (with_reducible repeat (first | apply bn | apply bd | apply ba)); refine blk_far ?_ ai.out _; (with_reducible repeat (first | apply bn | apply bd | apply ba)); refine blk_far ?_ ai.out _; exact bT ab.out⟩, ⟨by (with_reducible repeat (first | apply bn | apply bd | apply ba)); refine blk_far ?_ ap.out _; (with_reducible repeat (first | apply bn | apply bd | apply ba)); refine blk_far ?_ ap.out _; (with_reducible repeat (first | apply bn | apply bd | apply ba)); refine blk_far ?_ ap.out _; (with_reducible repeat (first | apply bn | apply bd | apply ba)); refine blk_put (cs := #[.string aA, .string aB, .string (⟨#[]⟩ : ByteArray)]) ?_ 2 _ rfl; (with_reducible repeat (first | apply bn | apply bd | apply ba)); refine blk_put (cs := #[.string aA, .string (⟨#[]⟩ : ByteArray), .string (⟨#[]⟩ : ByteArray)]) ?_ 1 _ rfl; (with_reducible repeat (first | apply bn | apply bd | apply ba)); refine blk_put (cs := #[.string (⟨#[]⟩ : ByteArray), .string (⟨#[]⟩ : ByteArray), .string (⟨#[]⟩ : ByteArray)]) ?_ 0 _ rfl; exact bT ak.out⟩, ⟨by (with_reducible repeat (first | apply bn | apply bd | apply ba)); refine blk_put (cs := #[.string az, .string aC, .string (⟨#[]⟩ : ByteArray)]) ?_ 2 _ rfl; (with_reducible repeat (first | apply bn | apply bd | apply ba)); refine blk_put (cs := #[.string az, .string (⟨#[]⟩ : ByteArray), .string (⟨#[]⟩ : ByteArray)]) ?_ 1 _ rfl; (with_reducible repeat (first | apply bn | apply bd | apply ba)); refine blk_put (cs := #[.string (⟨#[]⟩ : ByteArray), .string (⟨#[]⟩ : ByteArray), .string (⟨#[]⟩ : ByteArray)]) ?_ 0 _ rfl; (with_reducible repeat (first | apply bn | apply bd | apply ba)); refine blk_far ?_ aq.out _; (with_reducible repeat (first | apply bn | apply bd | apply ba)); refine blk_far ?_ aq.out _; (with_reducible repeat (first | apply bn | apply bd | apply ba)); refine blk_far ?_ aq.out _; exact bT al.out⟩, ⟨by repeat (first | (with_reducible first | exact HB.out | apply pA | apply pN | apply pD | refine eU ?_ (by assumption)) | exact HB.out)⟩⟩
     case rest =>
      clear cT
      try clear c1
      try clear p2
      try clear c4
      try clear c5
      try clear c6
      try clear c7
      try clear c17
      try clear bX
      try clear c43
      try clear c58
      try clear c59
      try clear c60
      try clear c62
      try clear c63
      try clear c65
      try clear a8
      try clear b0
      try clear cH
      try clear c66
      try clear c67
      try clear c68
      try clear c70
      try clear c71
      try clear c72
      try clear c74
      try clear c75
      try clear bi
      try clear bj
      try clear bk
      try clear bp
      try clear bq
      try clear br
      try clear bv
      try clear bw
      try clear bx
      try clear bz
      try clear bF
      try clear bG
      try clear bH
      try clear bI
      try clear bN
      try clear bO
      try clear bP
      try clear bQ
      try clear bl
      try clear bm
      try clear bo
      try clear bs
      try clear bt
      try clear bu
      try clear bA
      try clear bC
      try clear bD
      try clear bE
      try clear bJ
      try clear bK
      try clear bL
      try clear bM
      try clear bR
      try clear bS
      try clear bU
      try clear bV
      obtain ⟨kq, a_, rfl, HA, c2, ac, ad, aa, ab, ak, al, HB⟩ := hcut
      cases kq with
      | zero => exact absurd HA.out (by simp [version_Cmp.j1])
      | succ kj46 =>
       have H := HA.out
       clear HA
       simp only [version_Cmp.j1] at H
       by_cases c77 : a_ = true
       ·subst c77
        have H1 : ((cmp_Compare_int.f (au.length : Int) (ar.length : Int)).bind fun bW => (some (bW, 0))) = some (r1, r2) := by rw [if_pos rfl] at H; exact H
        clear H
        have H := H1
        clear H1
        replace H := Option.bind_eq_some_iff.mp H
        obtain ⟨bW, c3, H⟩ := H
        replace H : (some (bW, 0)) = some (r1, r2) := H
        have A78 := Aside0.mk c3
        clear c3
        simp only [Option.some.injEq, Prod.mk.injEq] at H
        obtain ⟨rfl, rfl⟩ := H
        have fY := aL.out
        have fZ := aG.out
        have f0 := ai.out
        have f1 := ax.out
        have f2 := aj.out
        have f3 := ay.out
        have b_ : wc.cell? ⟨an, 0, none⟩ = some (.string az) := (blk_cell ab.out 0).trans rfl
        have ca : wc.cell? ⟨an, 1, none⟩ = some (.string aC) := (blk_cell ab.out 1).trans rfl
        have cb : wc.cell? ⟨an, 2, none⟩ = some (.string aE) := (blk_cell ab.out 2).trans rfl
        have cc : wc.cell? ⟨an, 3, none⟩ = some (.slice aI au.length aH) := (blk_cell ab.out 3).trans rfl
        have cd := blk_frozen ab.out 0
        have ce := blk_frozen ab.out 1
        have cf := blk_frozen ab.out 2
        have cg := blk_frozen ab.out 3
        have f4 := ag.out
        have f5 := av.out
        have f6 := ah.out
        have f7 := aw.out
        have ch : wc.cell? ⟨ao, 0, none⟩ = some (.string aA) := (blk_cell aa.out 0).trans rfl
        have ci : wc.cell? ⟨ao, 1, none⟩ = some (.string aB) := (blk_cell aa.out 1).trans rfl
        have cj : wc.cell? ⟨ao, 2, none⟩ = some (.string aD) := (blk_cell aa.out 2).trans rfl
        have ck : wc.cell? ⟨ao, 3, none⟩ = some (.slice Ao9 ar.length co9) := (blk_cell aa.out 3).trans rfl
        have cl := blk_frozen aa.out 0
        have cm := blk_frozen aa.out 1
        have cn := blk_frozen aa.out 2
        have co := blk_frozen aa.out 3
        go_wp2_with (first | ((with_reducible refine gate_callee (f := 50) rfl ?_); refine goesL_ (some 80) rfl rfl Tryd.func50 (by kernel_rfl) rfl #[.int .i64 (au.length : Int), .int .i64 (ar.length : Int)] rfl (by (try simp only [List.map_toArray, List.map_cons, List.map_nil]); first | done | rfl | (simp only [List.length_drop, List.length_take]; rfl)) ?_; (with_reducible refine (cmp_Compare_int.calls (au.length : Int) (ar.length : Int) bW _ A78.out).mono ?_); rintro e w' ⟨rfl, ⟨nd, rfl⟩⟩; refine ⟨_, rfl, ?_⟩))
        go_ret2
        exact ⟨by first | rfl | (simp [errW_none, errW_some] <;> rfl) | (simp [*, errW_none, errW_some] <;> rfl), eT HB.out⟩
       ·replace c77 := Bool.eq_false_iff.mpr c77
        subst c77
        have H1 : (version_Cmp.l0 kj46 (mn (ar.length : Int) (au.length : Int)) 0 aA aB aD ar az aC aE au) = some (r1, r2) := by rw [if_neg (show ¬ (false = true) by decide)] at H; exact H
        clear H
        have H := H1
        clear H1
        obtain ⟨bg, bf⟩ : ∃ j_ : Int, (mn (ar.length : Int) (au.length : Int)) = j_ := ⟨_, rfl⟩
        replace H : (version_Cmp.l0 kj46 bg 0 aA aB aD ar az aC aE au) = some (r1, r2) := by first | (rw [bf] at H; exact H) | (simp only [bf] at H ⊢; exact H)
        have cU : (if (au.length : Int) < (ar.length : Int) then (au.length : Int) else (ar.length : Int)) = bg := bf
        (try (have cV := cU; simp only [Int.ofNat_lt] at cV))
        have H' := Aside0.mk H
        clear H
        have f8 := aG.out
        have f9 := aL.out
        have f_ := ag.out
        have ga := av.out
        have gb := ah.out
        have gc := aw.out
        have cp : wc.cell? ⟨ao, 0, none⟩ = some (.string aA) := (blk_cell aa.out 0).trans rfl
        have cq : wc.cell? ⟨ao, 1, none⟩ = some (.string aB) := (blk_cell aa.out 1).trans rfl
        have cr : wc.cell? ⟨ao, 2, none⟩ = some (.string aD) := (blk_cell aa.out 2).trans rfl
        have ct : wc.cell? ⟨ao, 3, none⟩ = some (.slice Ao9 ar.length co9) := (blk_cell aa.out 3).trans rfl
        have cu := blk_frozen aa.out 0
        have cv := blk_frozen aa.out 1
        have cw := blk_frozen aa.out 2
        have cx := blk_frozen aa.out 3
        have gd := ai.out
        have ge := ax.out
        have gf := aj.out
        have gg := ay.out
        have cy : wc.cell? ⟨an, 0, none⟩ = some (.string az) := (blk_cell ab.out 0).trans rfl
        have cz : wc.cell? ⟨an, 1, none⟩ = some (.string aC) := (blk_cell ab.out 1).trans rfl
        have cA : wc.cell? ⟨an, 2, none⟩ = some (.string aE) := (blk_cell ab.out 2).trans rfl
        have cB : wc.cell? ⟨an, 3, none⟩ = some (.slice aI au.length aH) := (blk_cell ab.out 3).trans rfl
        have cC := blk_frozen ab.out 0
        have cD := blk_frozen ab.out 1
        have cE := blk_frozen ab.out 2
        have cF := blk_frozen ab.out 3
        go_wp2
        go_loopg [88] kj46 (fun kq v88 w' => ∃ (aF : Int), v88 = .int .i64 aF ∧ Aside0 (version_Cmp.l0 kq bg aF aA aB aD ar az aC aE au = some (r1, r2)) ∧ Aside0 (kq ≤ kj46) ∧ Aside0 (Kd.R Kd.string 9 w' w.heap.size (fun k_ => some k_ ≠ ((.slice aI au.length aH) : Value).ownBlock) (.slice Ao9 ar.length co9) ar) ∧ Aside0 (Kd.R Kd.string 9 w' w.heap.size (fun k_ => some k_ ≠ ((.slice Ao9 ar.length co9) : Value).ownBlock) (.slice aI au.length aH) au) ∧ Aside0 (w'.heap[ao]? = some (.cells #[.string aA, .string aB, .string aD, (.slice Ao9 ar.length co9)] 71 (0, 0))) ∧ Aside0 (w'.heap[an]? = some (.cells #[.string az, .string aC, .string aE, (.slice aI au.length aH)] 71 (0, 0))) ∧ Aside0 (w'.heap[ae]? = some (.cells #[.string aA, .string aB, .string aD] 76 (0, 0))) ∧ Aside0 (w'.heap[af]? = some (.cells #[.string az, .string aC, .string aE] 76 (0, 0))) ∧ Aside0 (Below w.heap.size w w'))
        case atStart => exact ⟨(0), (by first | rfl | (simp; done) | (simp [*]; done)), H', ⟨Nat.le_refl _⟩, ⟨rT ac.out⟩, ⟨rT ad.out⟩, ⟨bT aa.out⟩, ⟨bT ab.out⟩, ⟨bT ak.out⟩, ⟨bT al.out⟩, ⟨eT HB.out⟩⟩
        case round =>
         clear H'
         try clear c1
         try clear p2
         try clear c4
         try clear c5
         try clear c6
         try clear c7
         try clear c8
         try clear c9
         try clear c17
         try clear bX
         try clear c43
         try clear c50
         try clear c58
         try clear c59
         try clear c60
         try clear c62
         try clear c63
         try clear c65
         try clear a8
         try clear b0
         try clear cH
         try clear c66
         try clear c67
         try clear c68
         try clear c70
         try clear c71
         try clear c72
         try clear c74
         try clear c75
         try clear c77
         try clear c79
         try clear c80
         try clear c81
         try clear c83
         try clear c84
         try clear c87
         try clear c88
         try clear c89
         try clear c91
         try clear c92
         try clear bi
         try clear bj
         try clear bk
         try clear bp
         try clear bq
         try clear br
         try clear bv
         try clear bw
         try clear bx
         try clear bz
         try clear bF
         try clear bG
         try clear bH
         try clear bI
         try clear bN
         try clear bO
         try clear bP
         try clear bQ
         try clear b_
         try clear ca
         try clear cb
         try clear cc
         try clear ch
         try clear ci
         try clear cj
         try clear ck
         try clear cp
         try clear cq
         try clear cr
         try clear ct
         try clear cy
         try clear cz
         try clear cA
         try clear cB
         try clear bl
         try clear bm
         try clear bo
         try clear bs
         try clear bt
         try clear bu
         try clear bA
         try clear bC
         try clear bD
         try clear bE
         try clear bJ
         try clear bK
         try clear bL
         try clear bM
         try clear bR
         try clear bS
         try clear bU
         try clear bV
         try clear cd
         try clear ce
         try clear cf
         try clear cg
         try clear cl
         try clear cm
         try clear cn
         try clear co
         try clear cu
         try clear cv
         try clear cw
         try clear cx
         try clear cC
         try clear cD
         try clear cE
         try clear cF
         try clear p2
         obtain ⟨aF, rfl, HA, HK3, ac, ad, aa, ab, ak, al, HB⟩ := hrel
         cases gk with
         | zero => exact absurd HA.out (by simp [version_Cmp.l0])
         | succ k3 =>
          have H := HA.out
          clear HA
          simp only [version_Cmp.l0] at H
          by_cases c94 : aF < bg
          ·rw [if_pos c94] at H
           have c_ : decide (aF < bg) = true := decide_eq_true c94
           clear c94
           by_cases c95 : 0 ≤ aF
           ·rw [if_pos c95] at H
            have gh : decide (0 ≤ aF) = true := decide_eq_true c95
            clear c95
            by_cases c96 : aF < (ar.length : Int)
            ·rw [if_pos c96] at H
             have gi : decide (aF < (ar.length : Int)) = true := decide_eq_true c96
             clear c96
             by_cases c97 : aF < (au.length : Int)
             ·rw [if_pos c97] at H
              have gj : decide (aF < (au.length : Int)) = true := decide_eq_true c97
              clear c97
              replace H := Option.bind_eq_some_iff.mp H
              obtain ⟨a7, da, H⟩ := H
              replace H : (if a7 = 0 then (version_Cmp.l0 k3 bg (wrap64 (aF + 1)) aA aB aD ar az aC aE au) else (some (a7, 0))) = some (r1, r2) := H
              have A98 := Aside0.mk da
              clear da
              by_cases c99 : a7 = 0
              ·rw [if_pos c99] at H
               have db : (a7 == 0) = true := beq_iff_eq.mpr c99
               have dc : (a7 != 0) = false := bne_eq_false_iff_eq.mpr c99
               clear c99
               have H' := Aside0.mk H
               clear H
               try go_wp2
               have n0_ := am (Kd.R_drew ac.out)
               have n1_ := am (Kd.R_drew ad.out)
               have n2_ := am (blk_drew aa.out)
               have n3_ := am (blk_drew ab.out)
               have n4_ := am (blk_drew ak.out)
               have n5_ := am (blk_drew al.out)
               have n6_ := am (below_drew1 HB.out)
               clear ac ad aa ab ak al HB
               have ac := n0_
               have ad := n1_
               have aa := n2_
               have ab := n3_
               have ak := n4_
               have al := n5_
               have HB := n6_
               clear n0_ n1_ n2_ n3_ n4_ n5_ n6_
               have p233 : 0 ≤ (aF : Int) := of_decide_eq_true (by first | (with_reducible assumption) | assumption)
               have q233 : aF < (ar.length : Int) := of_decide_eq_true (by first | (with_reducible assumption) | assumption)
               obtain ⟨ad233, e233, a4⟩ := Kd.at_string (Kd.R_reads' ac.out).2.2 aF p233 q233
               cases e233
               replace p233 := eq_true p233
               replace q233 := eq_true q233
               have p234 : 0 ≤ (aF : Int) := of_decide_eq_true (by first | (with_reducible assumption) | assumption)
               have q234 : aF < (au.length : Int) := of_decide_eq_true (by first | (with_reducible assumption) | assumption)
               obtain ⟨ad234, e234, a5⟩ := Kd.at_string (Kd.R_reads' ad.out).2.2 aF p234 q234
               cases e234
               replace p234 := eq_true p234
               replace q234 := eq_true q234
               refine start_ (n := 12) (S := fun w' => w'.cell? ⟨ao, 0, none⟩ = some (.string aA) ∧ w'.cell? ⟨ao, 1, none⟩ = some (.string aB) ∧ w'.cell? ⟨ao, 2, none⟩ = some (.string aD) ∧ w'.cell? ⟨ao, 3, none⟩ = some (.slice (some ad233) ar.length co9) ∧ w'.cell? ⟨an, 0, none⟩ = some (.string az) ∧ w'.cell? ⟨an, 1, none⟩ = some (.string aC) ∧ w'.cell? ⟨an, 2, none⟩ = some (.string aE) ∧ w'.cell? ⟨an, 3, none⟩ = some (.slice (some ad234) au.length aH) ∧ w'.cell? (ad233.add (aF).toNat) = some (.string (rdOf ByteArray.empty ar aF)) ∧ w'.cell? (ad234.add (aF).toNat) = some (.string (rdOf ByteArray.empty au aF))) (ds := []) #[false, false, false, false, false, false, false, false, false, false, false, false] (by kernel_rfl) rfl rfl ⟨(blk_cell aa.out 0).trans rfl, (blk_cell aa.out 1).trans rfl, (blk_cell aa.out 2).trans rfl, (blk_cell aa.out 3).trans rfl, (blk_cell ab.out 0).trans rfl, (blk_cell ab.out 1).trans rfl, (blk_cell ab.out 2).trans rfl, (blk_cell ab.out 3).trans rfl, a4, a5⟩ (fun hHeld => ?_); refine with_tabW version_Cmp.tab13 version_Cmp.bits13 (fun HT_ HW_ => ?_)
               generalize wr.drew = gA at ac ad aa ab ak al HB a4 a5 hHeld ⊢
               refine pure_ (i := 0) (N := some 91) (v := ?_) (a' := ?_) #[true, false, false, false, false, false, false, false, false, false, false, false] rfl rfl (any_of HT_.out (by kernel_rfl)) (fun _ _ _ h => h) (Or.inl ⟨by rfl, ?_⟩) ?_ ?_
               rotate_left
               ·intro w'
                go_simp
                with_reducible rfl
               rotate_left
               ·simp only [pS]
                rfl
               refine pure_ (i := 2) (N := some 93) (v := ?_) (a' := ?_) #[true, false, true, false, false, false, false, false, false, false, false, false] rfl rfl (any_of HT_.out (by kernel_rfl)) (fun _ _ _ h => h) (Or.inl ⟨by rfl, ?_⟩) ?_ ?_
               rotate_left
               ·intro w'
                go_simp
                with_reducible rfl
               rotate_left
               ·simp only [pS]
                rfl
               refine pure_ (i := 5) (N := some 96) (v := ?_) (a' := ?_) #[true, false, true, false, false, true, false, false, false, false, false, false] rfl rfl (any_of HT_.out (by kernel_rfl)) (fun _ _ _ h => h) (Or.inl ⟨by rfl, ?_⟩) ?_ ?_
               rotate_left
               ·intro w'
                go_simp
                with_reducible rfl
               rotate_left
               ·simp only [pS]
                rfl
               refine pure_ (i := 7) (N := some 98) (v := ?_) (a' := ?_) #[true, false, true, false, false, true, false, true, false, false, false, false] rfl rfl (any_of HT_.out (by kernel_rfl)) (fun _ _ _ h => h) (Or.inl ⟨by rfl, ?_⟩) ?_ ?_
               rotate_left
               ·intro w'
                go_simp
                with_reducible rfl
               rotate_left
               ·simp only [pS]
                rfl
               refine take_ (i := 1) (N := some 92) (v := ?_) (a' := ?_) #[true, true, true, false, false, true, false, true, false, false, false, false] rfl rfl (take_ofW HT_.out HW_.out (by kernel_rfl)) (fun _ _ _ h => h) (Or.inl ⟨by rfl, ?_⟩) hHeld ?_ ?_
               rotate_left
               ·rintro w' ⟨s0, s1, s2, s3, s4, s5, s6, s7, s8, s9⟩
                go_simp
                with_reducible rfl
               rotate_left
               ·simp only [pS]
                rfl
               refine pure_ (i := 3) (N := some 94) (v := ?_) (a' := ?_) #[true, true, true, true, false, true, false, true, false, false, false, false] rfl rfl (any_of HT_.out (by kernel_rfl)) (fun _ _ _ h => h) (Or.inl ⟨by rfl, ?_⟩) ?_ ?_
               rotate_left
               ·intro w'
                go_simp
                with_reducible rfl
               rotate_left
               ·simp only [pS]
                rfl
               refine take_ (i := 4) (N := some 95) (v := ?_) (a' := ?_) #[true, true, true, true, true, true, false, true, false, false, false, false] rfl rfl (take_ofW HT_.out HW_.out (by kernel_rfl)) (fun _ _ _ h => h) (Or.inl ⟨by rfl, ?_⟩) hHeld ?_ ?_
               rotate_left
               ·rintro w' ⟨s0, s1, s2, s3, s4, s5, s6, s7, s8, s9⟩
                go_simp
                with_reducible rfl
               rotate_left
               ·simp only [pS]
                rfl
               refine take_ (i := 6) (N := some 97) (v := ?_) (a' := ?_) #[true, true, true, true, true, true, true, true, false, false, false, false] rfl rfl (take_ofW HT_.out HW_.out (by kernel_rfl)) (fun _ _ _ h => h) (Or.inl ⟨by rfl, ?_⟩) hHeld ?_ ?_
               rotate_left
               ·rintro w' ⟨s0, s1, s2, s3, s4, s5, s6, s7, s8, s9⟩
                go_simp
                with_reducible rfl
               rotate_left
               ·simp only [pS]
                rfl
               refine pure_ (i := 8) (N := some 99) (v := ?_) (a' := ?_) #[true, true, true, true, true, true, true, true, true, false, false, false] rfl rfl (any_of HT_.out (by kernel_rfl)) (fun _ _ _ h => h) (Or.inl ⟨by rfl, ?_⟩) ?_ ?_
               rotate_left
               ·intro w'
                go_simp
                with_reducible rfl
               rotate_left
               ·simp only [pS]
                rfl
               refine take_ (i := 9) (N := some 100) (v := ?_) (a' := ?_) #[true, true, true, true, true, true, true, true, true, true, false, false] rfl rfl (take_ofW HT_.out HW_.out (by kernel_rfl)) (fun _ _ _ h => h) (Or.inl ⟨by rfl, ?_⟩) hHeld ?_ ?_
               rotate_left
               ·rintro w' ⟨s0, s1, s2, s3, s4, s5, s6, s7, s8, s9⟩
                go_simp
                with_reducible rfl
               rotate_left
               ·simp only [pS]
                rfl
               refine one_ (i := 10) (N := some 101) #[true, true, true, true, true, true, true, true, true, true, true, false] rfl rfl (one_of HT_.out (by kernel_rfl)) (by decide) (fun K hK => ?_)
               refine goes_ Tryd.func51 (by kernel_rfl) rfl #[.string (rdOf ByteArray.empty ar aF), .string (rdOf ByteArray.empty au aF)] (by rfl) rfl rfl (by (try simp only [List.map_toArray, List.map_cons, List.map_nil]); first | done | rfl | (simp only [List.length_drop, List.length_take]; rfl)) ?_
               with_reducible refine (version_words.calls k3 (rdOf ByteArray.empty ar aF) (rdOf ByteArray.empty au aF) a7 _ A98.out).mono ?_
               rintro e gB ⟨rfl, hb⟩
               have HS8_ := (hb.cell (World.block_lt_of_cell? _ _ (hHeld.2.2.2.2.2.2.2.2.1))).trans (hHeld.2.2.2.2.2.2.2.2.1)
               have HS9_ := (hb.cell (World.block_lt_of_cell? _ _ (hHeld.2.2.2.2.2.2.2.2.2))).trans (hHeld.2.2.2.2.2.2.2.2.2)
               refine ⟨_, rfl, ?_⟩
               have n0_ := am (rB ac.out hb)
               have n1_ := am (rB ad.out hb)
               have n2_ := am (bB aa.out hb)
               have n3_ := am (bB ab.out hb)
               have n4_ := am (bB ak.out hb)
               have n5_ := am (bB al.out hb)
               have n6_ := am (sT HB.out hb)
               clear ac ad aa ab ak al HB
               have ac := n0_
               have ad := n1_
               have aa := n2_
               have ab := n3_
               have ak := n4_
               have al := n5_
               have HB := n6_
               clear n0_ n1_ n2_ n3_ n4_ n5_ n6_
               (try clear hb)
               (try clear hb2)
               (try clear hk)
               (try clear hi)
               refine hK.out _ _ ⟨(blk_cell aa.out 0).trans rfl, (blk_cell aa.out 1).trans rfl, (blk_cell aa.out 2).trans rfl, (blk_cell aa.out 3).trans rfl, (blk_cell ab.out 0).trans rfl, (blk_cell ab.out 1).trans rfl, (blk_cell ab.out 2).trans rfl, (blk_cell ab.out 3).trans rfl, HS8_, HS9_⟩ (fun hHeld => ?_)
               clear hK K
               refine norm_ (a' := ?_) ?_ ?_
               rotate_left
               ·show Act.put _ (some 101) _ = _
                simp only [pS]
                rfl
               refine pure_ (i := 11) (N := some 13) (v := ?_) (a' := ?_) #[true, true, true, true, true, true, true, true, true, true, true, true] rfl rfl (any_of HT_.out (by kernel_rfl)) (fun _ _ _ h => h) (Or.inl ⟨by rfl, ?_⟩) ?_ ?_
               rotate_left
               ·intro w'
                go_simp
                with_reducible rfl
               rotate_left
               ·simp only [pS]
                rfl
               refine done_ (done_of HT_.out (by kernel_rfl)) ?_
               try go_wp2
               go_roundg k3
               case measure => have := HJ4.out; have := c2.out; have := HK3.out; omega
               case rel => exact ⟨(wrap64 (aF + 1)), (by first | rfl | (simp; done) | (simp [*]; done)), H', ⟨by have := HJ4.out; have := c2.out; have := HK3.out; omega⟩, ⟨rT ac.out⟩, ⟨rT ad.out⟩, ⟨bT aa.out⟩, ⟨bT ab.out⟩, ⟨bT ak.out⟩, ⟨bT al.out⟩, ⟨eT HB.out⟩⟩
              ·rw [if_neg c99] at H
               have db : (a7 == 0) = false := beq_eq_false_iff_ne.mpr c99
               have dc : (a7 != 0) = true := bne_iff_ne.mpr c99
               simp only [Option.some.injEq, Prod.mk.injEq] at H
               obtain ⟨rfl, rfl⟩ := H
               try go_wp2
               have n0_ := am (Kd.R_drew ac.out)
               have n1_ := am (Kd.R_drew ad.out)
               have n2_ := am (blk_drew aa.out)
               have n3_ := am (blk_drew ab.out)
               have n4_ := am (blk_drew ak.out)
               have n5_ := am (blk_drew al.out)
               have n6_ := am (below_drew1 HB.out)
               clear ac ad aa ab ak al HB
               have ac := n0_
               have ad := n1_
               have aa := n2_
               have ab := n3_
               have ak := n4_
               have al := n5_
               have HB := n6_
               clear n0_ n1_ n2_ n3_ n4_ n5_ n6_
               have p233 : 0 ≤ (aF : Int) := of_decide_eq_true (by first | (with_reducible assumption) | assumption)
               have q233 : aF < (ar.length : Int) := of_decide_eq_true (by first | (with_reducible assumption) | assumption)
               obtain ⟨ad233, e233, a4⟩ := Kd.at_string (Kd.R_reads' ac.out).2.2 aF p233 q233
               cases e233
               replace p233 := eq_true p233
               replace q233 := eq_true q233
               have p234 : 0 ≤ (aF : Int) := of_decide_eq_true (by first | (with_reducible assumption) | assumption)
               have q234 : aF < (au.length : Int) := of_decide_eq_true (by first | (with_reducible assumption) | assumption)
               obtain ⟨ad234, e234, a5⟩ := Kd.at_string (Kd.R_reads' ad.out).2.2 aF p234 q234
               cases e234
               replace p234 := eq_true p234
               replace q234 := eq_true q234
               refine start_ (n := 12) (S := fun w' => w'.cell? ⟨ao, 0, none⟩ = some (.string aA) ∧ w'.cell? ⟨ao, 1, none⟩ = some (.string aB) ∧ w'.cell? ⟨ao, 2, none⟩ = some (.string aD) ∧ w'.cell? ⟨ao, 3, none⟩ = some (.slice (some ad233) ar.length co9) ∧ w'.cell? ⟨an, 0, none⟩ = some (.string az) ∧ w'.cell? ⟨an, 1, none⟩ = some (.string aC) ∧ w'.cell? ⟨an, 2, none⟩ = some (.string aE) ∧ w'.cell? ⟨an, 3, none⟩ = some (.slice (some ad234) au.length aH) ∧ w'.cell? (ad233.add (aF).toNat) = some (.string (rdOf ByteArray.empty ar aF)) ∧ w'.cell? (ad234.add (aF).toNat) = some (.string (rdOf ByteArray.empty au aF))) (ds := []) #[false, false, false, false, false, false, false, false, false, false, false, false] (by kernel_rfl) rfl rfl ⟨(blk_cell aa.out 0).trans rfl, (blk_cell aa.out 1).trans rfl, (blk_cell aa.out 2).trans rfl, (blk_cell aa.out 3).trans rfl, (blk_cell ab.out 0).trans rfl, (blk_cell ab.out 1).trans rfl, (blk_cell ab.out 2).trans rfl, (blk_cell ab.out 3).trans rfl, a4, a5⟩ (fun hHeld => ?_); refine with_tabW version_Cmp.tab13 version_Cmp.bits13 (fun HT_ HW_ => ?_)
               generalize wr.drew = gC at ac ad aa ab ak al HB a4 a5 hHeld ⊢
               refine pure_ (i := 0) (N := some 91) (v := ?_) (a' := ?_) #[true, false, false, false, false, false, false, false, false, false, false, false] rfl rfl (any_of HT_.out (by kernel_rfl)) (fun _ _ _ h => h) (Or.inl ⟨by rfl, ?_⟩) ?_ ?_
               rotate_left
               ·intro w'
                go_simp
                with_reducible rfl
               rotate_left
               ·simp only [pS]
                rfl
               refine pure_ (i := 2) (N := some 93) (v := ?_) (a' := ?_) #[true, false, true, false, false, false, false, false, false, false, false, false] rfl rfl (any_of HT_.out (by kernel_rfl)) (fun _ _ _ h => h) (Or.inl ⟨by rfl, ?_⟩) ?_ ?_
               rotate_left
               ·intro w'
                go_simp
                with_reducible rfl
               rotate_left
               ·simp only [pS]
                rfl
               refine pure_ (i := 5) (N := some 96) (v := ?_) (a' := ?_) #[true, false, true, false, false, true, false, false, false, false, false, false] rfl rfl (any_of HT_.out (by kernel_rfl)) (fun _ _ _ h => h) (Or.inl ⟨by rfl, ?_⟩) ?_ ?_
               rotate_left
               ·intro w'
                go_simp
                with_reducible rfl
               rotate_left
               ·simp only [pS]
                rfl
               refine pure_ (i := 7) (N := some 98) (v := ?_) (a' := ?_) #[true, false, true, false, false, true, false, true, false, false, false, false] rfl rfl (any_of HT_.out (by kernel_rfl)) (fun _ _ _ h => h) (Or.inl ⟨by rfl, ?_⟩) ?_ ?_
               rotate_left
               ·intro w'
                go_simp
                with_reducible rfl
               rotate_left
               ·simp only [pS]
                rfl
               refine take_ (i := 1) (N := some 92) (v := ?_) (a' := ?_) #[true, true, true, false, false, true, false, true, false, false, false, false] rfl rfl (take_ofW HT_.out HW_.out (by kernel_rfl)) (fun _ _ _ h => h) (Or.inl ⟨by rfl, ?_⟩) hHeld ?_ ?_
               rotate_left
               ·rintro w' ⟨s0, s1, s2, s3, s4, s5, s6, s7, s8, s9⟩
                go_simp
                with_reducible rfl
               rotate_left
               ·simp only [pS]
                rfl
               refine pure_ (i := 3) (N := some 94) (v := ?_) (a' := ?_) #[true, true, true, true, false, true, false, true, false, false, false, false] rfl rfl (any_of HT_.out (by kernel_rfl)) (fun _ _ _ h => h) (Or.inl ⟨by rfl, ?_⟩) ?_ ?_
               rotate_left
               ·intro w'
                go_simp
                with_reducible rfl
               rotate_left
               ·simp only [pS]
                rfl
               refine take_ (i := 4) (N := some 95) (v := ?_) (a' := ?_) #[true, true, true, true, true, true, false, true, false, false, false, false] rfl rfl (take_ofW HT_.out HW_.out (by kernel_rfl)) (fun _ _ _ h => h) (Or.inl ⟨by rfl, ?_⟩) hHeld ?_ ?_
               rotate_left
               ·rintro w' ⟨s0, s1, s2, s3, s4, s5, s6, s7, s8, s9⟩
                go_simp
                with_reducible rfl
               rotate_left
               ·simp only [pS]
                rfl
               refine take_ (i := 6) (N := some 97) (v := ?_) (a' := ?_) #[true, true, true, true, true, true, true, true, false, false, false, false] rfl rfl (take_ofW HT_.out HW_.out (by kernel_rfl)) (fun _ _ _ h => h) (Or.inl ⟨by rfl, ?_⟩) hHeld ?_ ?_
               rotate_left
               ·rintro w' ⟨s0, s1, s2, s3, s4, s5, s6, s7, s8, s9⟩
                go_simp
                with_reducible rfl
               rotate_left
               ·simp only [pS]
                rfl
               refine pure_ (i := 8) (N := some 99) (v := ?_) (a' := ?_) #[true, true, true, true, true, true, true, true, true, false, false, false] rfl rfl (any_of HT_.out (by kernel_rfl)) (fun _ _ _ h => h) (Or.inl ⟨by rfl, ?_⟩) ?_ ?_
               rotate_left
               ·intro w'
                go_simp
                with_reducible rfl
               rotate_left
               ·simp only [pS]
                rfl
               refine take_ (i := 9) (N := some 100) (v := ?_) (a' := ?_) #[true, true, true, true, true, true, true, true, true, true, false, false] rfl rfl (take_ofW HT_.out HW_.out (by kernel_rfl)) (fun _ _ _ h => h) (Or.inl ⟨by rfl, ?_⟩) hHeld ?_ ?_
               rotate_left
               ·rintro w' ⟨s0, s1, s2, s3, s4, s5, s6, s7, s8, s9⟩
                go_simp
                with_reducible rfl
               rotate_left
               ·simp only [pS]
                rfl
               refine one_ (i := 10) (N := some 101) #[true, true, true, true, true, true, true, true, true, true, true, false] rfl rfl (one_of HT_.out (by kernel_rfl)) (by decide) (fun K hK => ?_)
               refine goes_ Tryd.func51 (by kernel_rfl) rfl #[.string (rdOf ByteArray.empty ar aF), .string (rdOf ByteArray.empty au aF)] (by rfl) rfl rfl (by (try simp only [List.map_toArray, List.map_cons, List.map_nil]); first | done | rfl | (simp only [List.length_drop, List.length_take]; rfl)) ?_
               with_reducible refine (version_words.calls k3 (rdOf ByteArray.empty ar aF) (rdOf ByteArray.empty au aF) a7 _ A98.out).mono ?_
               rintro e gD ⟨rfl, hb⟩
               have HS8_ := (hb.cell (World.block_lt_of_cell? _ _ (hHeld.2.2.2.2.2.2.2.2.1))).trans (hHeld.2.2.2.2.2.2.2.2.1)
               have HS9_ := (hb.cell (World.block_lt_of_cell? _ _ (hHeld.2.2.2.2.2.2.2.2.2))).trans (hHeld.2.2.2.2.2.2.2.2.2)
               refine ⟨_, rfl, ?_⟩
               have n0_ := am (rB ac.out hb)
               have n1_ := am (rB ad.out hb)
               have n2_ := am (bB aa.out hb)
               have n3_ := am (bB ab.out hb)
               have n4_ := am (bB ak.out hb)
               have n5_ := am (bB al.out hb)
               have n6_ := am (sT HB.out hb)
               clear ac ad aa ab ak al HB
               have ac := n0_
               have ad := n1_
               have aa := n2_
               have ab := n3_
               have ak := n4_
               have al := n5_
               have HB := n6_
               clear n0_ n1_ n2_ n3_ n4_ n5_ n6_
               (try clear hb)
               (try clear hb2)
               (try clear hk)
               (try clear hi)
               refine hK.out _ _ ⟨(blk_cell aa.out 0).trans rfl, (blk_cell aa.out 1).trans rfl, (blk_cell aa.out 2).trans rfl, (blk_cell aa.out 3).trans rfl, (blk_cell ab.out 0).trans rfl, (blk_cell ab.out 1).trans rfl, (blk_cell ab.out 2).trans rfl, (blk_cell ab.out 3).trans rfl, HS8_, HS9_⟩ (fun hHeld => ?_)
               clear hK K
               refine norm_ (a' := ?_) ?_ ?_
               rotate_left
               ·show Act.put _ (some 101) _ = _
                simp only [pS]
                rfl
               refine pure_ (i := 11) (N := some 13) (v := ?_) (a' := ?_) #[true, true, true, true, true, true, true, true, true, true, true, true] rfl rfl (any_of HT_.out (by kernel_rfl)) (fun _ _ _ h => h) (Or.inl ⟨by rfl, ?_⟩) ?_ ?_
               rotate_left
               ·intro w'
                go_simp
                with_reducible rfl
               rotate_left
               ·simp only [pS]
                rfl
               refine done_ (done_of HT_.out (by kernel_rfl)) ?_
               try go_wp2
               go_ret2
               exact ⟨by first | rfl | (simp [errW_none, errW_some] <;> rfl) | (simp only [← bf]; first | rfl | (simp [errW_none, errW_some] <;> rfl)) | (simp [*, errW_none, errW_some] <;> rfl), eT HB.out⟩
             ·rw [if_neg c97] at H
              exact absurd H (by simp)
            ·rw [if_neg c96] at H
             exact absurd H (by simp)
           ·rw [if_neg c95] at H
            exact absurd H (by simp)
          ·rw [if_neg c94] at H
           have c_ : decide (aF < bg) = false := decide_eq_false c94
           clear c94
           replace H := Option.bind_eq_some_iff.mp H
           obtain ⟨b1, cI, H⟩ := H
           replace H : (some (b1, 0)) = some (r1, r2) := H
           have eW := Aside0.mk cI
           clear cI
           simp only [Option.some.injEq, Prod.mk.injEq] at H
           obtain ⟨rfl, rfl⟩ := H
           have eX := aG.out
           have eY := aL.out
           have eZ := ag.out
           have e0 := av.out
           have e1 := ah.out
           have e2 := aw.out
           have dd : wr.cell? ⟨ao, 0, none⟩ = some (.string aA) := (blk_cell aa.out 0).trans rfl
           have de : wr.cell? ⟨ao, 1, none⟩ = some (.string aB) := (blk_cell aa.out 1).trans rfl
           have df : wr.cell? ⟨ao, 2, none⟩ = some (.string aD) := (blk_cell aa.out 2).trans rfl
           have dg : wr.cell? ⟨ao, 3, none⟩ = some (.slice Ao9 ar.length co9) := (blk_cell aa.out 3).trans rfl
           have dh := blk_frozen aa.out 0
           have di := blk_frozen aa.out 1
           have dj := blk_frozen aa.out 2
           have dk := blk_frozen aa.out 3
           have e3 := ai.out
           have e4 := ax.out
           have e5 := aj.out
           have e6 := ay.out
           have dl : wr.cell? ⟨an, 0, none⟩ = some (.string az) := (blk_cell ab.out 0).trans rfl
           have dm : wr.cell? ⟨an, 1, none⟩ = some (.string aC) := (blk_cell ab.out 1).trans rfl
           have dn : wr.cell? ⟨an, 2, none⟩ = some (.string aE) := (blk_cell ab.out 2).trans rfl
           have dp : wr.cell? ⟨an, 3, none⟩ = some (.slice aI au.length aH) := (blk_cell ab.out 3).trans rfl
           have dq := blk_frozen ab.out 0
           have dr := blk_frozen ab.out 1
           have dt := blk_frozen ab.out 2
           have du := blk_frozen ab.out 3
           go_wp2_with (first | ((with_reducible refine gate_callee (f := 50) rfl ?_); refine goesL_ (some 112) rfl rfl Tryd.func50 (by kernel_rfl) rfl #[.int .i64 (ar.length : Int), .int .i64 (au.length : Int)] rfl (by (try simp only [List.map_toArray, List.map_cons, List.map_nil]); first | done | rfl | (simp only [List.length_drop, List.length_take]; rfl)) ?_; (with_reducible refine (cmp_Compare_int.calls (ar.length : Int) (au.length : Int) b1 _ eW.out).mono ?_); rintro e w' ⟨rfl, ⟨nd, rfl⟩⟩; refine ⟨_, rfl, ?_⟩))
           go_ret2
           exact ⟨by first | rfl | (simp [errW_none, errW_some] <;> rfl) | (simp only [← bf]; first | rfl | (simp [errW_none, errW_some] <;> rfl)) | (simp [*, errW_none, errW_some] <;> rfl), eT HB.out⟩

end Go.Proofs.YtomjppafgalaoaaDoor.P
