-- Written by this project's own program (wip/tools/hp.py), driving the kit's print; hand texts among it. Not trusted: Lean checks it.
-- half the indentation
import Derived.Test.YtjadpeahoaogcaaDoorThin
import Derived.Test.YtjadpeahoaogcaaDoorP0
import Derived.Test.YtjadpeahoaogcaaDoorP1
import Derived.Test.YtjadpeahoaogcaaDoorP12
import Derived.Test.YtjadpeahoaogcaaDoorP13
namespace Go.Proofs.YtjadpeahoaogcaaDoor.P
open Go.RowKit Go.Proofs.YtjadpeahoaogcaaDoorW.PrintWords Go.Proofs.YtjadpeahoaogcaaDoorW.PrintLast Go.Proofs.YtjadpeahoaogcaaDoorW.PrintMore
attribute [local go_sem] max2_int min2_int max_two min_two max_three min_three max_four min_four   -- for this text's walks alone
set_option linter.unusedVariables false
set_option linter.unusedSimpArgs false

attribute [local go_sem high] eqA49
/-! ### version_Cmp: function 11 -/
mutual
def version_Cmp.j0 : Nat → Bool → ByteArray → ByteArray → ByteArray → List ByteArray → ByteArray → ByteArray → ByteArray → List ByteArray → Option (Int × Int)
 | 0, _, _, _, _, _, _, _, _, _ => none
 | k + 1, x29, x172000, x172001, x172002, x172003, x180000, x180001, x180002, x180003 => if x29 = true then (some (0, 1)) else (if (!(x172000.toList == x180000.toList) || (!(x172001.toList == x180001.toList) || (!(x172002.toList == x180002.toList)))) = true then ((version_numbers.f k x172000 x180000).bind fun t182 => ((version_numbers.f k x172001 x180001).bind fun t183 => ((version_numbers.f k x172002 x180002).bind fun t184 => ((cmp_Or_int.f k (([t182, t183, t184] : List Int))).bind fun t188 => (some (t188, 0)))))) else (if (x172003.length : Int) = 0 then (version_Cmp.j1 k true x172000 x172001 x172002 x172003 x180000 x180001 x180002 x180003) else (version_Cmp.j1 k ((x180003.length : Int) == 0) x172000 x172001 x172002 x172003 x180000 x180001 x180002 x180003)))
def version_Cmp.j1 : Nat → Bool → ByteArray → ByteArray → ByteArray → List ByteArray → ByteArray → ByteArray → ByteArray → List ByteArray → Option (Int × Int)
 | 0, _, _, _, _, _, _, _, _, _ => none
 | k + 1, x73, x172000, x172001, x172002, x172003, x180000, x180001, x180002, x180003 => if x73 = true then ((cmp_Compare_int.f (x180003.length : Int) (x172003.length : Int)).bind fun t189 => (some (t189, 0))) else (version_Cmp.l0 k (mn (x172003.length : Int) (x180003.length : Int)) 0 x172000 x172001 x172002 x172003 x180000 x180001 x180002 x180003)
def version_Cmp.l0 : Nat → Int → Int → ByteArray → ByteArray → ByteArray → List ByteArray → ByteArray → ByteArray → ByteArray → List ByteArray → Option (Int × Int)
 | 0, _, _, _, _, _, _, _, _, _, _ => none
 | k + 1, x87, x88, x172000, x172001, x172002, x172003, x180000, x180001, x180002, x180003 => if x88 < x87 then (if 0 ≤ x88 then (if x88 < (x172003.length : Int) then (if x88 < (x180003.length : Int) then ((version_words.f k (rdOf ByteArray.empty x172003 x88) (rdOf ByteArray.empty x180003 x88)).bind fun t192 => (if t192 = 0 then (version_Cmp.l0 k x87 (wrap64 (x88 + 1)) x172000 x172001 x172002 x172003 x180000 x180001 x180002 x180003) else (some (t192, 0)))) else (none)) else (none)) else (none)) else ((cmp_Compare_int.f (x172003.length : Int) (x180003.length : Int)).bind fun t193 => (some (t193, 0)))
end
def version_Cmp.f (k : Nat) (a0 : ByteArray) (a1 : ByteArray) : Option (Int × Int) := (version_Split.f k a0).bind fun bt164 => ((version_Split.f k a1).bind fun bt172 => (if bt164.2.2.2.2 = 0 then (version_Cmp.j0 k (bt172.2.2.2.2 != 0) bt164.1 bt164.2.1 bt164.2.2.1 bt164.2.2.2.1 bt172.1 bt172.2.1 bt172.2.2.1 bt172.2.2.2.1) else (version_Cmp.j0 k true bt164.1 bt164.2.1 bt164.2.2.1 bt164.2.2.2.1 bt172.1 bt172.2.1 bt172.2.2.1 bt172.2.2.2.1)))
theorem version_Cmp.mono_l : ∀ k, (∀ y0 y1 y2 y3 y4 y5 y6 y7 y8, LeO (version_Cmp.j0 k y0 y1 y2 y3 y4 y5 y6 y7 y8) (version_Cmp.j0 (k + 1) y0 y1 y2 y3 y4 y5 y6 y7 y8)) ∧ (∀ y0 y1 y2 y3 y4 y5 y6 y7 y8, LeO (version_Cmp.j1 k y0 y1 y2 y3 y4 y5 y6 y7 y8) (version_Cmp.j1 (k + 1) y0 y1 y2 y3 y4 y5 y6 y7 y8)) ∧ (∀ y0 y1 y2 y3 y4 y5 y6 y7 y8 y9, LeO (version_Cmp.l0 k y0 y1 y2 y3 y4 y5 y6 y7 y8 y9) (version_Cmp.l0 (k + 1) y0 y1 y2 y3 y4 y5 y6 y7 y8 y9))
 | 0 => ⟨fun _ _ _ _ _ _ _ _ _ r h => by simp [version_Cmp.j0] at h, fun _ _ _ _ _ _ _ _ _ r h => by simp [version_Cmp.j1] at h, fun _ _ _ _ _ _ _ _ _ _ r h => by simp [version_Cmp.l0] at h⟩
 | k + 1 => by
  obtain ⟨ih0, ih1, ih2⟩ := version_Cmp.mono_l k
  refine ⟨?_, ?_, ?_⟩
  ·intro y0 y1 y2 y3 y4 y5 y6 y7 y8
   unfold version_Cmp.j0
   repeat' first
   | (with_reducible exact ih0 _ _ _ _ _ _ _ _ _)
   | (with_reducible exact ih1 _ _ _ _ _ _ _ _ _)
   | (with_reducible exact ih2 _ _ _ _ _ _ _ _ _ _)
   | (with_reducible exact cmp_Or_int.mono _ _)
   | (with_reducible exact version_Split.mono _ _)
   | (with_reducible exact version_numbers.mono _ _ _)
   | (with_reducible exact version_words.mono _ _ _)
   | (with_reducible exact LeO.refl _)
   | (with_reducible exact LeO.none _)
   | (with_reducible refine LeO.ite ?_ ?_)
   | (with_reducible refine LeO.bind ?_ (fun _ => ?_))
   | exact ih0 _ _ _ _ _ _ _ _ _
   | exact ih1 _ _ _ _ _ _ _ _ _
   | exact ih2 _ _ _ _ _ _ _ _ _ _
   | exact cmp_Or_int.mono _ _
   | exact version_Split.mono _ _
   | exact version_numbers.mono _ _ _
   | exact version_words.mono _ _ _
   | exact LeO.none _
   | refine LeO.ite ?_ ?_
   | refine LeO.bind ?_ (fun _ => ?_)
  ·intro y0 y1 y2 y3 y4 y5 y6 y7 y8
   unfold version_Cmp.j1
   repeat' first
   | (with_reducible exact ih0 _ _ _ _ _ _ _ _ _)
   | (with_reducible exact ih1 _ _ _ _ _ _ _ _ _)
   | (with_reducible exact ih2 _ _ _ _ _ _ _ _ _ _)
   | (with_reducible exact cmp_Or_int.mono _ _)
   | (with_reducible exact version_Split.mono _ _)
   | (with_reducible exact version_numbers.mono _ _ _)
   | (with_reducible exact version_words.mono _ _ _)
   | (with_reducible exact LeO.refl _)
   | (with_reducible exact LeO.none _)
   | (with_reducible refine LeO.ite ?_ ?_)
   | (with_reducible refine LeO.bind ?_ (fun _ => ?_))
   | exact ih0 _ _ _ _ _ _ _ _ _
   | exact ih1 _ _ _ _ _ _ _ _ _
   | exact ih2 _ _ _ _ _ _ _ _ _ _
   | exact cmp_Or_int.mono _ _
   | exact version_Split.mono _ _
   | exact version_numbers.mono _ _ _
   | exact version_words.mono _ _ _
   | exact LeO.none _
   | refine LeO.ite ?_ ?_
   | refine LeO.bind ?_ (fun _ => ?_)
  ·intro y0 y1 y2 y3 y4 y5 y6 y7 y8 y9
   unfold version_Cmp.l0
   repeat' first
   | (with_reducible exact ih0 _ _ _ _ _ _ _ _ _)
   | (with_reducible exact ih1 _ _ _ _ _ _ _ _ _)
   | (with_reducible exact ih2 _ _ _ _ _ _ _ _ _ _)
   | (with_reducible exact cmp_Or_int.mono _ _)
   | (with_reducible exact version_Split.mono _ _)
   | (with_reducible exact version_numbers.mono _ _ _)
   | (with_reducible exact version_words.mono _ _ _)
   | (with_reducible exact LeO.refl _)
   | (with_reducible exact LeO.none _)
   | (with_reducible refine LeO.ite ?_ ?_)
   | (with_reducible refine LeO.bind ?_ (fun _ => ?_))
   | exact ih0 _ _ _ _ _ _ _ _ _
   | exact ih1 _ _ _ _ _ _ _ _ _
   | exact ih2 _ _ _ _ _ _ _ _ _ _
   | exact cmp_Or_int.mono _ _
   | exact version_Split.mono _ _
   | exact version_numbers.mono _ _ _
   | exact version_words.mono _ _ _
   | exact LeO.none _
   | refine LeO.ite ?_ ?_
   | refine LeO.bind ?_ (fun _ => ?_)
theorem version_Cmp.mono : ∀ a0 a1 k, LeO (version_Cmp.f k a0 a1) (version_Cmp.f (k + 1) a0 a1) := by
 intro a0 a1 k
 obtain ⟨ih0, ih1, ih2⟩ := version_Cmp.mono_l k
 unfold version_Cmp.f
 repeat' first
   | (with_reducible exact ih0 _ _ _ _ _ _ _ _ _)
   | (with_reducible exact ih1 _ _ _ _ _ _ _ _ _)
   | (with_reducible exact ih2 _ _ _ _ _ _ _ _ _ _)
   | (with_reducible exact cmp_Or_int.mono _ _)
   | (with_reducible exact version_Split.mono _ _)
   | (with_reducible exact version_numbers.mono _ _ _)
   | (with_reducible exact version_words.mono _ _ _)
   | (with_reducible exact LeO.refl _)
   | (with_reducible exact LeO.none _)
   | (with_reducible refine LeO.ite ?_ ?_)
   | (with_reducible refine LeO.bind ?_ (fun _ => ?_))
   | exact ih0 _ _ _ _ _ _ _ _ _
   | exact ih1 _ _ _ _ _ _ _ _ _
   | exact ih2 _ _ _ _ _ _ _ _ _ _
   | exact cmp_Or_int.mono _ _
   | exact version_Split.mono _ _
   | exact version_numbers.mono _ _ _
   | exact version_words.mono _ _ _
   | exact LeO.none _
   | refine LeO.ite ?_ ?_
   | refine LeO.bind ?_ (fun _ => ?_)
def version_Cmp.T5 : Bool × List (List Nat × List Nat) := (true, [([], []), ([0], [0]), ([], []), ([2], [2]), ([], []), ([4], [4]), ([1, 3, 5], [1, 3, 5]), ([], []), ([7], [7]), ([], []), ([9], [9]), ([], []), ([11], [11]), ([8, 10, 12], [8, 10, 12]), ([], []), ([], []), ([14, 6, 0, 1, 2, 3, 4, 5, 6, 14, 15], [6, 14]), ([15, 13, 16, 0, 1, 2, 3, 4, 5, 6, 7, 8, 9, 10, 11, 12, 13, 14, 15, 16], [13, 15])])
def version_Cmp.B5 : List Nat := [0, 1, 0, 4, 0, 16, 63, 0, 128, 0, 512, 0, 2048, 8064, 0, 0, 49279, 131071]
theorem version_Cmp.tab5 : rtab .any (opsOf Tryd.f11 5) = version_Cmp.T5 := by kernel_rfl
theorem version_Cmp.bits5 : waitsOk version_Cmp.T5.2 version_Cmp.B5 = true := by kernel_rfl
def version_Cmp.T7 : Bool × List (List Nat × List Nat) := (true, [([], []), ([0], [0]), ([], []), ([2], [2]), ([1, 3], [1, 3]), ([], []), ([5], [5]), ([], []), ([7], [7]), ([6, 8, 4], [6, 8]), ([], []), ([10], [10]), ([], []), ([12], [12]), ([11, 13, 9], [11, 13]), ([4, 9, 14], [4, 9, 14]), ([15, 14], [15]), ([16, 16, 0, 1, 2, 3, 4, 5, 6, 7, 8, 9, 10, 11, 12, 13, 14, 15, 16], [16]), ([17, 0, 1, 2, 3, 4, 5, 6, 7, 8, 9, 10, 11, 12, 13, 14, 15, 16, 17], [])])
def version_Cmp.B7 : List Nat := [0, 1, 0, 4, 15, 0, 32, 0, 128, 511, 0, 1024, 0, 4096, 16383, 32767, 65535, 131071, 262143]
theorem version_Cmp.tab7 : rtab .any (opsOf Tryd.f11 7) = version_Cmp.T7 := by kernel_rfl
theorem version_Cmp.bits7 : waitsOk version_Cmp.T7.2 version_Cmp.B7 = true := by kernel_rfl
def version_Cmp.T13 : Bool × List (List Nat × List Nat) := (true, [([], []), ([0], [0]), ([], []), ([1, 2], [1, 2]), ([3], [3]), ([], []), ([5], [5]), ([], []), ([6, 7], [6, 7]), ([8], [8]), ([4, 9], [4, 9]), ([10, 10, 0, 1, 2, 3, 4, 5, 6, 7, 8, 9, 10], [10])])
def version_Cmp.B13 : List Nat := [0, 1, 0, 7, 15, 0, 32, 0, 224, 480, 1023, 2047]
theorem version_Cmp.tab13 : rtab .any (opsOf Tryd.f11 13) = version_Cmp.T13 := by kernel_rfl
theorem version_Cmp.bits13 : waitsOk version_Cmp.T13.2 version_Cmp.B13 = true := by kernel_rfl
set_option maxHeartbeats 8000000 in
set_option maxRecDepth 100000 in
theorem version_Cmp.calls (k : Nat) (a0 : ByteArray) (a1 : ByteArray) (r1 : Int) (r2 : Int) (w : World) (h : version_Cmp.f k a0 a1 = some (r1, r2)) :
  Calls Tryd.prog 11 #[.string a0, .string a1] w fun e w' => e = .returned (.tuple #[.int .i64 r1, .int .i64 r2]) ∧ Below w.heap.size w w' := by
 have hu36 := Tryd.underlying36
 have hu49 := Tryd.underlying49
 have HB := am (Below.refl w.heap.size w)
 have H : ((version_Split.f k a0).bind fun bt164 => ((version_Split.f k a1).bind fun bt172 => (if bt164.2.2.2.2 = 0 then (version_Cmp.j0 k (bt172.2.2.2.2 != 0) bt164.1 bt164.2.1 bt164.2.2.1 bt164.2.2.2.1 bt172.1 bt172.2.1 bt172.2.2.1 bt172.2.2.2.1) else (version_Cmp.j0 k true bt164.1 bt164.2.1 bt164.2.2.1 bt164.2.2.2.1 bt172.1 bt172.2.1 bt172.2.2.1 bt172.2.2.2.1)))) = some (r1, r2) := h
 clear h
 replace H := Option.bind_eq_some_iff.mp H
 obtain ⟨⟨t164, t165, t166, t167, t170⟩, A30, H⟩ := H
 replace H : ((version_Split.f k a1).bind fun bt172 => (if t170 = 0 then (version_Cmp.j0 k (bt172.2.2.2.2 != 0) t164 t165 t166 t167 bt172.1 bt172.2.1 bt172.2.2.1 bt172.2.2.2.1) else (version_Cmp.j0 k true t164 t165 t166 t167 bt172.1 bt172.2.1 bt172.2.2.1 bt172.2.2.2.1))) = some (r1, r2) := H
 have A3 := Aside0.mk A30
 clear A30
 replace H := Option.bind_eq_some_iff.mp H
 obtain ⟨⟨t172, t173, t174, t175, t178⟩, A40, H⟩ := H
 replace H : (if t170 = 0 then (version_Cmp.j0 k (t178 != 0) t164 t165 t166 t167 t172 t173 t174 t175) else (version_Cmp.j0 k true t164 t165 t166 t167 t172 t173 t174 t175)) = some (r1, r2) := H
 have A4 := Aside0.mk A40
 clear A40
 have HC5 := Aside0.mk H
 clear H
 go_enter Tryd.func11, Tryd.ntmps11
 go_upto_region 3 with (first | ((with_reducible refine gate_callee (f := 18) rfl ?_); refine gL (some 16) Tryd.func18 #[.string a0] ?_; (with_reducible refine (version_Split.calls k a0 t164 t165 t166 t167 t170 _ A3.out).mono ?_); rintro e w6 ⟨v168, rfl, ho0, hb⟩; refine ⟨_, rfl, ?_⟩; have HO169 := am (Kd.R_lower ho0 (below_size (by repeat (first | (with_reducible first | exact HB.out | apply pA | apply pN | apply pD) | exact HB.out)))); replace HB := am (below_step (by repeat (first | (with_reducible first | exact HB.out | apply pA | apply pN | apply pD) | exact HB.out)) hb); (try clear hb); (try clear hb2); (try clear hk); (try clear hi); (try clear ho0)) | ((with_reducible refine gate_dst (N := 6) rfl ?_); (try (refine gate_guard (by rfl) ?_; dsimp only)); refine box_event ?hg (N := 6) ?hd (cs := #[.string (⟨#[]⟩ : ByteArray), .string (⟨#[]⟩ : ByteArray), .string (⟨#[]⟩ : ByteArray), .slice none 0 0]) (t := 36) ?hr ?_; (case hd => rfl); (case hg => rfl); (case hr => first | (go_simp; done) | (go_simp; rfl)); intro gb171 hg w7 hbox hb; replace HO169 := am (rB HO169.out hb); have BK171 := am (hbox); have GW171 := am ((by rw [hg]; exact (below_size (by repeat (first | (with_reducible first | exact HB.out | apply pA | apply pN | apply pD) | exact HB.out))) : w.heap.size ≤ gb171)); have GE171 := am ((by rw [hg]; exact (below_size (by repeat (first | (with_reducible first | exact HB.out | apply pA | apply pN | apply pD) | exact HB.out))) : w.heap.size ≤ gb171)); replace HB := am (below_step (by repeat (first | (with_reducible first | exact HB.out | apply pA | apply pN | apply pD) | exact HB.out)) hb); clear hb hbox hg; have hcz8_0 : w7.cell? ⟨gb171, 0, none⟩ = some (.string (⟨#[]⟩ : ByteArray)) := cT BK171 0; have hcz8_1 : w7.cell? ⟨gb171, 1, none⟩ = some (.string (⟨#[]⟩ : ByteArray)) := cT BK171 1; have hcz8_2 : w7.cell? ⟨gb171, 2, none⟩ = some (.string (⟨#[]⟩ : ByteArray)) := cT BK171 2; have hcz8_3 : w7.cell? ⟨gb171, 3, none⟩ = some (.slice none 0 0) := cT BK171 3; have hfz8_0 := blk_frozen BK171.out 0; have hfz8_1 := blk_frozen BK171.out 1; have hfz8_2 := blk_frozen BK171.out 2; have hfz8_3 := blk_frozen BK171.out 3; obtain ⟨Ao9, co9, eo9⟩ := Kd.R_slice HO169.out; subst eo9) | ((with_reducible refine gate_callee (f := 18) rfl ?_); refine gL (some 21) Tryd.func18 #[.string a1] ?_; (with_reducible refine (version_Split.calls k a1 t172 t173 t174 t175 t178 _ A4.out).mono ?_); rintro e w10 ⟨v176, rfl, ho0, hb⟩; refine ⟨_, rfl, ?_⟩; have HO177 := am (Kd.R_lower (Kd.R_new' ho0 (Kd.R_lt (by (with_reducible repeat (first | apply Kd.R_alloc | apply Kd.R_drewN | apply Kd.R_drew)); exact (Kd.R_mono (Kd.R_far (p := ⟨gb171, 3, none⟩) (Kd.R_far (p := ⟨gb171, 2, none⟩) (Kd.R_far (p := ⟨gb171, 1, none⟩) (Kd.R_far (p := ⟨gb171, 0, none⟩) (Kd.R_types HO169.out BK171.out (by decide)) (fun _ hk => hk.2) (.string t164)) (fun _ hk => hk.2) (.string t165)) (fun _ hk => hk.2) (.string t166)) (fun _ hk => hk.2) (.slice Ao9 t167.length co9)) (fun _ h_ => h_.1))))) (below_size (by repeat (first | (with_reducible first | exact HB.out | apply pA | apply pN | apply pD | refine eU ?_ (by assumption)) | exact HB.out)))); replace HO169 := am (Kd.R_elder' (by (with_reducible repeat (first | apply Kd.R_alloc | apply Kd.R_drewN | apply Kd.R_drew)); exact (Kd.R_mono (Kd.R_far (p := ⟨gb171, 3, none⟩) (Kd.R_far (p := ⟨gb171, 2, none⟩) (Kd.R_far (p := ⟨gb171, 1, none⟩) (Kd.R_far (p := ⟨gb171, 0, none⟩) (Kd.R_types HO169.out BK171.out (by decide)) (fun _ hk => hk.2) (.string t164)) (fun _ hk => hk.2) (.string t165)) (fun _ hk => hk.2) (.string t166)) (fun _ hk => hk.2) (.slice Ao9 t167.length co9)) (fun _ h_ => h_.1))) (Kd.R_base ho0) hb); replace HB := am (below_step (by repeat (first | (with_reducible first | exact HB.out | apply pA | apply pN | apply pD | refine eU ?_ (by assumption)) | exact HB.out)) hb); replace BK171 := am (blk_below (g := gb171) (o := .cells #[.string t164, .string t165, .string t166, .slice Ao9 t167.length co9] 36 (0, 0)) (by (with_reducible repeat (first | apply bn | apply bd | apply ba)); refine blk_put (cs := #[.string t164, .string t165, .string t166, .slice none 0 0]) ?_ 3 _ rfl; (with_reducible repeat (first | apply bn | apply bd | apply ba)); refine blk_put (cs := #[.string t164, .string t165, .string (⟨#[]⟩ : ByteArray), .slice none 0 0]) ?_ 2 _ rfl; (with_reducible repeat (first | apply bn | apply bd | apply ba)); refine blk_put (cs := #[.string t164, .string (⟨#[]⟩ : ByteArray), .string (⟨#[]⟩ : ByteArray), .slice none 0 0]) ?_ 1 _ rfl; (with_reducible repeat (first | apply bn | apply bd | apply ba)); refine blk_put (cs := #[.string (⟨#[]⟩ : ByteArray), .string (⟨#[]⟩ : ByteArray), .string (⟨#[]⟩ : ByteArray), .slice none 0 0]) ?_ 0 _ rfl; exact bT BK171.out) hb); (try clear hb); (try clear hb2); (try clear hk); (try clear hi); (try clear ho0)) | ((with_reducible refine gate_dst (N := 8) rfl ?_); (try (refine gate_guard (by rfl) ?_; dsimp only)); refine box_event ?hg (N := 8) ?hd (cs := #[.string (⟨#[]⟩ : ByteArray), .string (⟨#[]⟩ : ByteArray), .string (⟨#[]⟩ : ByteArray), .slice none 0 0]) (t := 36) ?hr ?_; (case hd => rfl); (case hg => rfl); (case hr => first | (go_simp; done) | (go_simp; rfl)); intro gb179 hg w11 hbox hb; replace HO169 := am (rB HO169.out hb); replace HO177 := am (rB HO177.out hb); have BK179 := am (hbox); have GW179 := am ((by rw [hg]; exact (below_size (by repeat (first | (with_reducible first | exact HB.out | apply pA | apply pN | apply pD | refine eU ?_ (by assumption)) | exact HB.out))) : w.heap.size ≤ gb179)); have GE179 := am ((by rw [hg]; exact (below_size (by repeat (first | (with_reducible first | exact HB.out | apply pA | apply pN | apply pD | refine eU ?_ (by assumption)) | exact HB.out))) : w.heap.size ≤ gb179)); have NB171_179 := am ((nT BK171.out hg)); have NB179_171 := am ((mT BK171.out hg)); replace BK171 := am (bB BK171.out hb); replace HB := am (below_step (by repeat (first | (with_reducible first | exact HB.out | apply pA | apply pN | apply pD | refine eU ?_ (by assumption)) | exact HB.out)) hb); clear hb hbox hg; have hnb12 := NB179_171.out; have hnc12 := NB171_179.out; have hcz13_0 : w11.cell? ⟨gb179, 0, none⟩ = some (.string (⟨#[]⟩ : ByteArray)) := cT BK179 0; have hcz13_1 : w11.cell? ⟨gb179, 1, none⟩ = some (.string (⟨#[]⟩ : ByteArray)) := cT BK179 1; have hcz13_2 : w11.cell? ⟨gb179, 2, none⟩ = some (.string (⟨#[]⟩ : ByteArray)) := cT BK179 2; have hcz13_3 : w11.cell? ⟨gb179, 3, none⟩ = some (.slice none 0 0) := cT BK179 3; have hfz13_0 := blk_frozen BK179.out 0; have hfz13_1 := blk_frozen BK179.out 1; have hfz13_2 := blk_frozen BK179.out 2; have hfz13_3 := blk_frozen BK179.out 3; obtain ⟨Ao14, co14, eo14⟩ := Kd.R_slice HO177.out; subst eo14))
 (try simp only [Act.put, List.setIfInBounds_toArray, List.set_cons_zero, List.set_cons_succ])
 go_cut [29] (fun v29 wc => ∃ (kq : Nat) (x29_4 : Bool), v29 = .bool x29_4 ∧ Aside0 (version_Cmp.j0 kq x29_4 t164 t165 t166 t167 t172 t173 t174 t175 = some (r1, r2)) ∧ Aside0 (kq ≤ k) ∧ Aside0 (Kd.R Kd.string 9 wc w.heap.size (fun k_ => some k_ ≠ ((.slice Ao14 t175.length co14) : Value).ownBlock) (.slice Ao9 t167.length co9) t167) ∧ Aside0 (Kd.R Kd.string 9 wc w.heap.size (fun k_ => some k_ ≠ ((.slice Ao9 t167.length co9) : Value).ownBlock) (.slice Ao14 t175.length co14) t175) ∧ Aside0 (wc.heap[gb171]? = some (.cells #[.string t164, .string t165, .string t166, (.slice Ao9 t167.length co9)] 36 (0, 0))) ∧ Aside0 (wc.heap[gb179]? = some (.cells #[.string t172, .string t173, .string t174, (.slice Ao14 t175.length co14)] 36 (0, 0))) ∧ Aside0 (Below w.heap.size w wc))
 case first =>
  have H := HC5.out
  clear HC5
  by_cases c15 : t170 = 0
  ·rw [if_pos c15] at H
   have c15b0 : (t170 == 0) = true := beq_iff_eq.mpr c15
   have c15b1 : (t170 != 0) = false := bne_eq_false_iff_eq.mpr c15
   clear c15
   (first | rw [c15b0] | (simp only [i64_w, i32_w]; rw [c15b0]) | skip)
   have H' := Aside0.mk H
   clear H
   go_wp2
   go_meet
   case rel => exact ⟨_, ((t178 != 0)), (by first | rfl | (simp; done) | (simp [*]; done)), H', ⟨by first | omega | exact Nat.le_refl _⟩, ⟨by (with_reducible repeat (first | apply Kd.R_alloc | apply Kd.R_drewN | apply Kd.R_drew)); exact Kd.R_mono (Kd.R_far (p := ⟨gb179, 3, none⟩) (Kd.R_far (p := ⟨gb179, 2, none⟩) (Kd.R_far (p := ⟨gb179, 1, none⟩) (Kd.R_far (p := ⟨gb179, 0, none⟩) (Kd.R_types HO169.out BK179.out (by decide)) (fun _ hk => hk.2) (.string t172)) (fun _ hk => hk.2) (.string t173)) (fun _ hk => hk.2) (.string t174)) (fun _ hk => hk.2) (.slice Ao14 t175.length co14)) (fun _ hk => hk.1.2)⟩, ⟨by (with_reducible repeat (first | apply Kd.R_alloc | apply Kd.R_drewN | apply Kd.R_drew)); exact Kd.R_mono (Kd.R_far (p := ⟨gb179, 3, none⟩) (Kd.R_far (p := ⟨gb179, 2, none⟩) (Kd.R_far (p := ⟨gb179, 1, none⟩) (Kd.R_far (p := ⟨gb179, 0, none⟩) (Kd.R_types HO177.out BK179.out (by decide)) (fun _ hk => hk.2) (.string t172)) (fun _ hk => hk.2) (.string t173)) (fun _ hk => hk.2) (.string t174)) (fun _ hk => hk.2) (.slice Ao14 t175.length co14)) (fun _ hk => hk.1.2)⟩, ⟨by (with_reducible repeat (first | apply bn | apply bd | apply ba)); refine blk_far ?_ NB171_179.out _; (with_reducible repeat (first | apply bn | apply bd | apply ba)); refine blk_far ?_ NB171_179.out _; (with_reducible repeat (first | apply bn | apply bd | apply ba)); refine blk_far ?_ NB171_179.out _; (with_reducible repeat (first | apply bn | apply bd | apply ba)); refine blk_far ?_ NB171_179.out _; exact bT BK171.out⟩, ⟨by (with_reducible repeat (first | apply bn | apply bd | apply ba)); refine blk_put (cs := #[.string t172, .string t173, .string t174, .slice none 0 0]) ?_ 3 _ rfl; (with_reducible repeat (first | apply bn | apply bd | apply ba)); refine blk_put (cs := #[.string t172, .string t173, .string (⟨#[]⟩ : ByteArray), .slice none 0 0]) ?_ 2 _ rfl; (with_reducible repeat (first | apply bn | apply bd | apply ba)); refine blk_put (cs := #[.string t172, .string (⟨#[]⟩ : ByteArray), .string (⟨#[]⟩ : ByteArray), .slice none 0 0]) ?_ 1 _ rfl; (with_reducible repeat (first | apply bn | apply bd | apply ba)); refine blk_put (cs := #[.string (⟨#[]⟩ : ByteArray), .string (⟨#[]⟩ : ByteArray), .string (⟨#[]⟩ : ByteArray), .slice none 0 0]) ?_ 0 _ rfl; exact bT BK179.out⟩, ⟨by repeat (first | (with_reducible first | exact HB.out | apply pA | apply pN | apply pD | refine eU ?_ (by assumption)) | exact HB.out)⟩⟩
  ·rw [if_neg c15] at H
   have c15b0 : (t170 == 0) = false := beq_eq_false_iff_ne.mpr c15
   have c15b1 : (t170 != 0) = true := bne_iff_ne.mpr c15
   (first | rw [c15b0] | (simp only [i64_w, i32_w]; rw [c15b0]) | skip)
   have H' := Aside0.mk H
   clear H
   go_wp2
   go_meet
   case rel => exact ⟨_, (true), (by first | rfl | (simp; done) | (simp [*]; done)), H', ⟨by first | omega | exact Nat.le_refl _⟩, ⟨by (with_reducible repeat (first | apply Kd.R_alloc | apply Kd.R_drewN | apply Kd.R_drew)); exact Kd.R_mono (Kd.R_far (p := ⟨gb179, 3, none⟩) (Kd.R_far (p := ⟨gb179, 2, none⟩) (Kd.R_far (p := ⟨gb179, 1, none⟩) (Kd.R_far (p := ⟨gb179, 0, none⟩) (Kd.R_types HO169.out BK179.out (by decide)) (fun _ hk => hk.2) (.string t172)) (fun _ hk => hk.2) (.string t173)) (fun _ hk => hk.2) (.string t174)) (fun _ hk => hk.2) (.slice Ao14 t175.length co14)) (fun _ hk => hk.1.2)⟩, ⟨by (with_reducible repeat (first | apply Kd.R_alloc | apply Kd.R_drewN | apply Kd.R_drew)); exact Kd.R_mono (Kd.R_far (p := ⟨gb179, 3, none⟩) (Kd.R_far (p := ⟨gb179, 2, none⟩) (Kd.R_far (p := ⟨gb179, 1, none⟩) (Kd.R_far (p := ⟨gb179, 0, none⟩) (Kd.R_types HO177.out BK179.out (by decide)) (fun _ hk => hk.2) (.string t172)) (fun _ hk => hk.2) (.string t173)) (fun _ hk => hk.2) (.string t174)) (fun _ hk => hk.2) (.slice Ao14 t175.length co14)) (fun _ hk => hk.1.2)⟩, ⟨by (with_reducible repeat (first | apply bn | apply bd | apply ba)); refine blk_far ?_ NB171_179.out _; (with_reducible repeat (first | apply bn | apply bd | apply ba)); refine blk_far ?_ NB171_179.out _; (with_reducible repeat (first | apply bn | apply bd | apply ba)); refine blk_far ?_ NB171_179.out _; (with_reducible repeat (first | apply bn | apply bd | apply ba)); refine blk_far ?_ NB171_179.out _; exact bT BK171.out⟩, ⟨by (with_reducible repeat (first | apply bn | apply bd | apply ba)); refine blk_put (cs := #[.string t172, .string t173, .string t174, .slice none 0 0]) ?_ 3 _ rfl; (with_reducible repeat (first | apply bn | apply bd | apply ba)); refine blk_put (cs := #[.string t172, .string t173, .string (⟨#[]⟩ : ByteArray), .slice none 0 0]) ?_ 2 _ rfl; (with_reducible repeat (first | apply bn | apply bd | apply ba)); refine blk_put (cs := #[.string t172, .string (⟨#[]⟩ : ByteArray), .string (⟨#[]⟩ : ByteArray), .slice none 0 0]) ?_ 1 _ rfl; (with_reducible repeat (first | apply bn | apply bd | apply ba)); refine blk_put (cs := #[.string (⟨#[]⟩ : ByteArray), .string (⟨#[]⟩ : ByteArray), .string (⟨#[]⟩ : ByteArray), .slice none 0 0]) ?_ 0 _ rfl; exact bT BK179.out⟩, ⟨by repeat (first | (with_reducible first | exact HB.out | apply pA | apply pN | apply pD | refine eU ?_ (by assumption)) | exact HB.out)⟩⟩
 case rest =>
  clear HC5
  try clear c1
  try clear p2
  try clear c11
  try clear c12
  try clear c15
  try clear c15b0
  try clear c15b1
  try clear hcz13_0
  try clear hcz13_1
  try clear hcz13_2
  try clear hcz13_3
  try clear hcz8_0
  try clear hcz8_1
  try clear hcz8_2
  try clear hcz8_3
  try clear hfz13_0
  try clear hfz13_1
  try clear hfz13_2
  try clear hfz13_3
  try clear hfz8_0
  try clear hfz8_1
  try clear hfz8_2
  try clear hfz8_3
  obtain ⟨kq, x29_4, rfl, HA, HJ4, HO_172003, HO_180003, BK171, BK179, HB⟩ := hcut
  cases kq with
  | zero => exact absurd HA.out (by simp [version_Cmp.j0])
  | succ kj4 =>
   have H := HA.out
   clear HA
   simp only [version_Cmp.j0] at H
   by_cases c16 : x29_4 = true
   ·subst c16
    have H1 : (some (0, 1)) = some (r1, r2) := by rw [if_pos rfl] at H; exact H
    clear H
    have H := H1
    clear H1
    simp only [Option.some.injEq, Prod.mk.injEq] at H
    obtain ⟨rfl, rfl⟩ := H
    go_wp2
    go_ret2
    exact ⟨by first | rfl | (simp [errW_none, errW_some] <;> rfl) | (simp [*, errW_none, errW_some] <;> rfl), eT HB.out⟩
   ·replace c16 := Bool.eq_false_iff.mpr c16
    subst c16
    have H1 : (if (!(t164.toList == t172.toList) || (!(t165.toList == t173.toList) || (!(t166.toList == t174.toList)))) = true then ((version_numbers.f kj4 t164 t172).bind fun t182 => ((version_numbers.f kj4 t165 t173).bind fun t183 => ((version_numbers.f kj4 t166 t174).bind fun t184 => ((cmp_Or_int.f kj4 (([t182, t183, t184] : List Int))).bind fun t188 => (some (t188, 0)))))) else (if (t167.length : Int) = 0 then (version_Cmp.j1 kj4 true t164 t165 t166 t167 t172 t173 t174 t175) else (version_Cmp.j1 kj4 ((t175.length : Int) == 0) t164 t165 t166 t167 t172 t173 t174 t175))) = some (r1, r2) := by rw [if_neg (show ¬ (false = true) by decide)] at H; exact H
    clear H
    have H := H1
    clear H1
    by_cases c17 : (!(t164.toList == t172.toList) || (!(t165.toList == t173.toList) || (!(t166.toList == t174.toList)))) = true
    ·rw [if_pos c17] at H
     have c17b0 : (!(t164.toList == t172.toList) || (!(t165.toList == t173.toList) || (!(t166.toList == t174.toList)))) = true := c17
     clear c17
     replace H := Option.bind_eq_some_iff.mp H
     obtain ⟨t182, A180, H⟩ := H
     replace H : ((version_numbers.f kj4 t165 t173).bind fun t183 => ((version_numbers.f kj4 t166 t174).bind fun t184 => ((cmp_Or_int.f kj4 (([t182, t183, t184] : List Int))).bind fun t188 => (some (t188, 0))))) = some (r1, r2) := H
     have A18 := Aside0.mk A180
     clear A180
     replace H := Option.bind_eq_some_iff.mp H
     obtain ⟨t183, A190, H⟩ := H
     replace H : ((version_numbers.f kj4 t166 t174).bind fun t184 => ((cmp_Or_int.f kj4 (([t182, t183, t184] : List Int))).bind fun t188 => (some (t188, 0)))) = some (r1, r2) := H
     have A19 := Aside0.mk A190
     clear A190
     replace H := Option.bind_eq_some_iff.mp H
     obtain ⟨t184, A200, H⟩ := H
     replace H : ((cmp_Or_int.f kj4 (([t182, t183, t184] : List Int))).bind fun t188 => (some (t188, 0))) = some (r1, r2) := H
     have A20 := Aside0.mk A200
     clear A200
     obtain ⟨y185, hy185⟩ : ∃ y_ : List Int, y_ = (([t182, t183, t184] : List Int)) := ⟨_, rfl⟩
     replace H : ((cmp_Or_int.f kj4 y185).bind fun t188 => (some (t188, 0))) = some (r1, r2) := by first | (rw [hy185]; with_reducible exact H) | (have H2_ := (Option.bind_some _ _).symm.trans H; rw [hy185]; with_reducible exact H2_) | (have H2_ := (Option.bind_some _ _).symm.trans H; with_reducible exact H2_) | with_reducible exact H | (rw [hy185]; exact H) | exact H
     have Ny185 := Aside0.mk hy185
     clear hy185
     replace H := Option.bind_eq_some_iff.mp H
     obtain ⟨t188, A210, H⟩ := H
     replace H : (some (t188, 0)) = some (r1, r2) := H
     have A21 := Aside0.mk A210
     clear A210
     simp only [Option.some.injEq, Prod.mk.injEq] at H
     obtain ⟨rfl, rfl⟩ := H
     try go_wp2
     replace HO_172003 := am (Kd.R_drew HO_172003.out)
     replace HO_180003 := am (Kd.R_drew HO_180003.out)
     replace BK171 := am (blk_drew BK171.out)
     replace BK179 := am (blk_drew BK179.out)
     replace HB := am (below_drew1 HB.out)
     refine start_ (n := 18) (S := fun w' => w'.cell? ⟨gb171, 0, none⟩ = some (.string t164) ∧ w'.cell? ⟨gb171, 1, none⟩ = some (.string t165) ∧ w'.cell? ⟨gb171, 2, none⟩ = some (.string t166) ∧ w'.cell? ⟨gb171, 3, none⟩ = some (.slice Ao9 t167.length co9) ∧ w'.cell? ⟨gb179, 0, none⟩ = some (.string t172) ∧ w'.cell? ⟨gb179, 1, none⟩ = some (.string t173) ∧ w'.cell? ⟨gb179, 2, none⟩ = some (.string t174) ∧ w'.cell? ⟨gb179, 3, none⟩ = some (.slice Ao14 t175.length co14)) (ds := []) (bA 18 0) (by kernel_rfl) rfl (by kernel_rfl) ⟨cT BK171 0, cT BK171 1, cT BK171 2, cT BK171 3, cT BK179 0, cT BK179 1, cT BK179 2, cT BK179 3⟩ (fun hHeld => ?_); refine with_tabW version_Cmp.tab5 version_Cmp.bits5 (fun HT_ HW_ => ?_)
     generalize wc.drew = w22 at HO_172003 HO_180003 BK171 BK179 HB hHeld ⊢
     refine pT 0 30 (bA 18 1) HT_.out ?_
     refine pT 2 32 (bA 18 5) HT_.out ?_
     refine pT 4 34 (bA 18 21) HT_.out ?_
     refine pT 7 37 (bA 18 149) HT_.out ?_
     refine pT 9 39 (bA 18 661) HT_.out ?_
     refine pT 11 41 (bA 18 2709) HT_.out ?_
     refine tT 1 31 (bA 18 2711) HT_.out HW_.out hHeld ?_ (hy := by rintro w' ⟨s0, s1, s2, s3, s4, s5, s6, s7⟩; go_simp; with_reducible rfl)
     refine tT 3 33 (bA 18 2719) HT_.out HW_.out hHeld ?_ (hy := by rintro w' ⟨s0, s1, s2, s3, s4, s5, s6, s7⟩; go_simp; with_reducible rfl)
     refine tT 5 35 (bA 18 2751) HT_.out HW_.out hHeld ?_ (hy := by rintro w' ⟨s0, s1, s2, s3, s4, s5, s6, s7⟩; go_simp; with_reducible rfl)
     refine pT 6 36 (bA 18 2815) HT_.out ?_
     refine tT 8 38 (bA 18 3071) HT_.out HW_.out hHeld ?_ (hy := by rintro w' ⟨s0, s1, s2, s3, s4, s5, s6, s7⟩; go_simp; with_reducible rfl)
     refine tT 10 40 (bA 18 4095) HT_.out HW_.out hHeld ?_ (hy := by rintro w' ⟨s0, s1, s2, s3, s4, s5, s6, s7⟩; go_simp; with_reducible rfl)
     refine tT 12 42 (bA 18 8191) HT_.out HW_.out hHeld ?_ (hy := by rintro w' ⟨s0, s1, s2, s3, s4, s5, s6, s7⟩; go_simp; with_reducible rfl)
     refine pT 13 43 (bA 18 16383) HT_.out ?_
     refine join_ (σ := Nat × Nat) 2 (bA 18 65535) (fun s_ => [(10, .pointer (some ⟨s_.1, 0, none⟩)), (11, .pointer (some ⟨s_.2, 0, none⟩))]) (fun s_ w' => (w'.cell? ⟨gb171, 0, none⟩ = some (.string t164) ∧ w'.cell? ⟨gb171, 1, none⟩ = some (.string t165) ∧ w'.cell? ⟨gb171, 2, none⟩ = some (.string t166) ∧ w'.cell? ⟨gb171, 3, none⟩ = some (.slice Ao9 t167.length co9) ∧ w'.cell? ⟨gb179, 0, none⟩ = some (.string t172) ∧ w'.cell? ⟨gb179, 1, none⟩ = some (.string t173) ∧ w'.cell? ⟨gb179, 2, none⟩ = some (.string t174) ∧ w'.cell? ⟨gb179, 3, none⟩ = some (.slice Ao14 t175.length co14)) ∧ (Kd.R Kd.string 9 w' w.heap.size (fun k_ => some k_ ≠ (.slice Ao14 t175.length co14 : Value).ownBlock) (.slice Ao9 t167.length co9) t167) ∧ (Kd.R Kd.string 9 w' w.heap.size (fun k_ => some k_ ≠ (.slice Ao9 t167.length co9 : Value).ownBlock) (.slice Ao14 t175.length co14) t175) ∧ (w'.heap[gb171]? = some (.cells #[.string t164, .string t165, .string t166, .slice Ao9 t167.length co9] 36 (0, 0))) ∧ (w'.heap[gb179]? = some (.cells #[.string t172, .string t173, .string t174, .slice Ao14 t175.length co14] 36 (0, 0))) ∧ (w'.heap[s_.1]? = some (.cells #[.string (⟨#[]⟩ : ByteArray), .string (⟨#[]⟩ : ByteArray), .string (⟨#[]⟩ : ByteArray)] 49 (0, 0))) ∧ (w'.heap[s_.2]? = some (.cells #[.string (⟨#[]⟩ : ByteArray), .string (⟨#[]⟩ : ByteArray), .string (⟨#[]⟩ : ByteArray)] 49 (0, 0))) ∧ (w.heap.size ≤ s_.1) ∧ (w.heap.size ≤ s_.1) ∧ (gb171 ≠ s_.1) ∧ (s_.1 ≠ gb171) ∧ (gb179 ≠ s_.1) ∧ (s_.1 ≠ gb179) ∧ (s_.2 ≠ s_.1) ∧ (s_.1 ≠ s_.2) ∧ (w.heap.size ≤ s_.2) ∧ (w.heap.size ≤ s_.2) ∧ (gb171 ≠ s_.2) ∧ (s_.2 ≠ gb171) ∧ (gb179 ≠ s_.2) ∧ (s_.2 ≠ gb179) ∧ (Below w.heap.size w w')) ?_ ?_
     rotate_left
     ·intro hCont
      refine two_ (i := 14) (j := 15) (Ni := some 10) (Nj := some 11) (bA 18 32767) (bA 18 49151) rfl rfl rfl rfl (two_of HT_.out (by kernel_rfl)) (by decide) (by decide) (fun K hK => ?_) (fun K hK => ?_)
      ·skip
       refine box_step ?hg (N := 10) ?hd (cs := #[.string (⟨#[]⟩ : ByteArray), .string (⟨#[]⟩ : ByteArray), .string (⟨#[]⟩ : ByteArray)]) (t := 49) ?hr ?_; (case hd => rfl); (case hg => rfl); (case hr => first | (go_simp; done) | (go_simp; rfl))
       intro gb180 hg w23 hbox hb
       replace HO_172003 := am (rB HO_172003.out hb)
       replace HO_180003 := am (rB HO_180003.out hb)
       have BK180 := am (hbox)
       have GW180 := am ((gT hg HB.out))
       have GE180 := am ((gT hg HB.out))
       have NB171_180 := am ((nT BK171.out hg))
       have NB180_171 := am ((mT BK171.out hg))
       have NB179_180 := am ((nT BK179.out hg))
       have NB180_179 := am ((mT BK179.out hg))
       replace BK171 := am (bB BK171.out hb)
       replace BK179 := am (bB BK179.out hb)
       replace HB := am (sT HB.out hb)
       clear hb hbox hg
       refine hK.out _ _ ⟨cT BK171 0, cT BK171 1, cT BK171 2, cT BK171 3, cT BK179 0, cT BK179 1, cT BK179 2, cT BK179 3⟩ (fun hHeld => ?_)
       clear hK K
       refine mN 10 ?_
       refine oT 15 (bA 18 65535) HT_.out fun K hK => ?_
       refine box_step ?hg (N := 11) ?hd (cs := #[.string (⟨#[]⟩ : ByteArray), .string (⟨#[]⟩ : ByteArray), .string (⟨#[]⟩ : ByteArray)]) (t := 49) ?hr ?_; (case hd => rfl); (case hg => rfl); (case hr => first | (go_simp; done) | (go_simp; rfl))
       intro gb181 hg w24 hbox hb
       replace HO_172003 := am (rB HO_172003.out hb)
       replace HO_180003 := am (rB HO_180003.out hb)
       have BK181 := am (hbox)
       have GW181 := am ((gT hg HB.out))
       have GE181 := am ((gT hg HB.out))
       have NB171_181 := am ((nT BK171.out hg))
       have NB181_171 := am ((mT BK171.out hg))
       have NB179_181 := am ((nT BK179.out hg))
       have NB181_179 := am ((mT BK179.out hg))
       have NB180_181 := am ((nT BK180.out hg))
       have NB181_180 := am ((mT BK180.out hg))
       replace BK171 := am (bB BK171.out hb)
       replace BK179 := am (bB BK179.out hb)
       replace BK180 := am (bB BK180.out hb)
       replace HB := am (sT HB.out hb)
       clear hb hbox hg
       refine hK.out _ _ ⟨cT BK171 0, cT BK171 1, cT BK171 2, cT BK171 3, cT BK179 0, cT BK179 1, cT BK179 2, cT BK179 3⟩ (fun hHeld => ?_)
       clear hK K
       refine mN 11 ?_
       exact norm_ (by simp only [putAll, Act.put, List.setIfInBounds_toArray, List.set_cons_zero, List.set_cons_succ]) (hCont (gb180, gb181) _ ⟨hHeld, (rT HO_172003.out), (rT HO_180003.out), (bT BK171.out), (bT BK179.out), (bT BK180.out), (bT BK181.out), GW180.out, GE180.out, NB171_180.out, NB180_171.out, NB179_180.out, NB180_179.out, NB181_180.out, NB180_181.out, GW181.out, GE181.out, NB171_181.out, NB181_171.out, NB179_181.out, NB181_179.out, (eT HB.out)⟩)
      ·skip
       refine box_step ?hg (N := 11) ?hd (cs := #[.string (⟨#[]⟩ : ByteArray), .string (⟨#[]⟩ : ByteArray), .string (⟨#[]⟩ : ByteArray)]) (t := 49) ?hr ?_; (case hd => rfl); (case hg => rfl); (case hr => first | (go_simp; done) | (go_simp; rfl))
       intro gb181 hg w23 hbox hb
       replace HO_172003 := am (rB HO_172003.out hb)
       replace HO_180003 := am (rB HO_180003.out hb)
       have BK181 := am (hbox)
       have GW181 := am ((gT hg HB.out))
       have GE181 := am ((gT hg HB.out))
       have NB171_181 := am ((nT BK171.out hg))
       have NB181_171 := am ((mT BK171.out hg))
       have NB179_181 := am ((nT BK179.out hg))
       have NB181_179 := am ((mT BK179.out hg))
       replace BK171 := am (bB BK171.out hb)
       replace BK179 := am (bB BK179.out hb)
       replace HB := am (sT HB.out hb)
       clear hb hbox hg
       refine hK.out _ _ ⟨cT BK171 0, cT BK171 1, cT BK171 2, cT BK171 3, cT BK179 0, cT BK179 1, cT BK179 2, cT BK179 3⟩ (fun hHeld => ?_)
       clear hK K
       refine mN 11 ?_
       refine oT 14 (bA 18 65535) HT_.out fun K hK => ?_
       refine box_step ?hg (N := 10) ?hd (cs := #[.string (⟨#[]⟩ : ByteArray), .string (⟨#[]⟩ : ByteArray), .string (⟨#[]⟩ : ByteArray)]) (t := 49) ?hr ?_; (case hd => rfl); (case hg => rfl); (case hr => first | (go_simp; done) | (go_simp; rfl))
       intro gb180 hg w24 hbox hb
       replace HO_172003 := am (rB HO_172003.out hb)
       replace HO_180003 := am (rB HO_180003.out hb)
       have BK180 := am (hbox)
       have GW180 := am ((gT hg HB.out))
       have GE180 := am ((gT hg HB.out))
       have NB171_180 := am ((nT BK171.out hg))
       have NB180_171 := am ((mT BK171.out hg))
       have NB179_180 := am ((nT BK179.out hg))
       have NB180_179 := am ((mT BK179.out hg))
       have NB181_180 := am ((nT BK181.out hg))
       have NB180_181 := am ((mT BK181.out hg))
       replace BK171 := am (bB BK171.out hb)
       replace BK179 := am (bB BK179.out hb)
       replace BK181 := am (bB BK181.out hb)
       replace HB := am (sT HB.out hb)
       clear hb hbox hg
       refine hK.out _ _ ⟨cT BK171 0, cT BK171 1, cT BK171 2, cT BK171 3, cT BK179 0, cT BK179 1, cT BK179 2, cT BK179 3⟩ (fun hHeld => ?_)
       clear hK K
       refine mN 10 ?_
       exact norm_ (by simp only [putAll, Act.put, List.setIfInBounds_toArray, List.set_cons_zero, List.set_cons_succ]) (hCont (gb180, gb181) _ ⟨hHeld, (rT HO_172003.out), (rT HO_180003.out), (bT BK171.out), (bT BK179.out), (bT BK180.out), (bT BK181.out), GW180.out, GE180.out, NB171_180.out, NB180_171.out, NB179_180.out, NB180_179.out, NB181_180.out, NB180_181.out, GW181.out, GE181.out, NB171_181.out, NB181_171.out, NB179_181.out, NB181_179.out, (eT HB.out)⟩)
     rintro ⟨gb180, gb181⟩ w25 ⟨hS_, h0_, h1_, h2_, h3_, h4_, h5_, h6_, h7_, h8_, h9_, h10_, h11_, h12_, h13_, h14_, h15_, h16_, h17_, h18_, h19_, h20_⟩
     replace HO_172003 : Aside0 (Kd.R Kd.string 9 w25 w.heap.size (fun k_ => some k_ ≠ (.slice Ao14 t175.length co14 : Value).ownBlock) (.slice Ao9 t167.length co9) t167) := ⟨h0_⟩
     replace HO_180003 : Aside0 (Kd.R Kd.string 9 w25 w.heap.size (fun k_ => some k_ ≠ (.slice Ao9 t167.length co9 : Value).ownBlock) (.slice Ao14 t175.length co14) t175) := ⟨h1_⟩
     replace BK171 : Aside0 (w25.heap[gb171]? = some (.cells #[.string t164, .string t165, .string t166, .slice Ao9 t167.length co9] 36 (0, 0))) := ⟨h2_⟩
     replace BK179 : Aside0 (w25.heap[gb179]? = some (.cells #[.string t172, .string t173, .string t174, .slice Ao14 t175.length co14] 36 (0, 0))) := ⟨h3_⟩
     have BK180 : Aside0 (w25.heap[gb180]? = some (.cells #[.string (⟨#[]⟩ : ByteArray), .string (⟨#[]⟩ : ByteArray), .string (⟨#[]⟩ : ByteArray)] 49 (0, 0))) := ⟨h4_⟩
     have BK181 : Aside0 (w25.heap[gb181]? = some (.cells #[.string (⟨#[]⟩ : ByteArray), .string (⟨#[]⟩ : ByteArray), .string (⟨#[]⟩ : ByteArray)] 49 (0, 0))) := ⟨h5_⟩
     have GW180 : Aside0 (w.heap.size ≤ gb180) := ⟨h6_⟩
     have GE180 : Aside0 (w.heap.size ≤ gb180) := ⟨h7_⟩
     have NB171_180 : Aside0 (gb171 ≠ gb180) := ⟨h8_⟩
     have NB180_171 : Aside0 (gb180 ≠ gb171) := ⟨h9_⟩
     have NB179_180 : Aside0 (gb179 ≠ gb180) := ⟨h10_⟩
     have NB180_179 : Aside0 (gb180 ≠ gb179) := ⟨h11_⟩
     have NB181_180 : Aside0 (gb181 ≠ gb180) := ⟨h12_⟩
     have NB180_181 : Aside0 (gb180 ≠ gb181) := ⟨h13_⟩
     have GW181 : Aside0 (w.heap.size ≤ gb181) := ⟨h14_⟩
     have GE181 : Aside0 (w.heap.size ≤ gb181) := ⟨h15_⟩
     have NB171_181 : Aside0 (gb171 ≠ gb181) := ⟨h16_⟩
     have NB181_171 : Aside0 (gb181 ≠ gb171) := ⟨h17_⟩
     have NB179_181 : Aside0 (gb179 ≠ gb181) := ⟨h18_⟩
     have NB181_179 : Aside0 (gb181 ≠ gb179) := ⟨h19_⟩
     replace HB : Aside0 (Below w.heap.size w w25) := ⟨h20_⟩
     clear h0_ h1_ h2_ h3_ h4_ h5_ h6_ h7_ h8_ h9_ h10_ h11_ h12_ h13_ h14_ h15_ h16_ h17_ h18_ h19_ h20_
     have hHeld := hS_
     (try dsimp only at hHeld)
     refine rN ?_
     refine oT 16 (bA 18 131071) HT_.out fun K hK => ?_
     have hs26 : w25.cell? ⟨gb180, 0, none⟩ = some (.string (⟨#[]⟩ : ByteArray)) := cT BK180 0
     have hfs26 := blk_frozen BK180.out 0
     have hns26_0 := NB171_180.out
     have hns26_1 := NB179_180.out
     have hns26_3 := NB181_180.out
     have hms26_0 := NB180_171.out
     have hms26_1 := NB180_179.out
     have hms26_3 := NB180_181.out
     have hs27 : w25.cell? ⟨gb180, 1, none⟩ = some (.string (⟨#[]⟩ : ByteArray)) := cT BK180 1
     have hfs27 := blk_frozen BK180.out 1
     have hns27_0 := NB171_180.out
     have hns27_1 := NB179_180.out
     have hns27_3 := NB181_180.out
     have hms27_0 := NB180_171.out
     have hms27_1 := NB180_179.out
     have hms27_3 := NB180_181.out
     have hs28 : w25.cell? ⟨gb180, 2, none⟩ = some (.string (⟨#[]⟩ : ByteArray)) := cT BK180 2
     have hfs28 := blk_frozen BK180.out 2
     have hns28_0 := NB171_180.out
     have hns28_1 := NB179_180.out
     have hns28_3 := NB181_180.out
     have hms28_0 := NB180_171.out
     have hms28_1 := NB180_179.out
     have hms28_3 := NB180_181.out
     refine skip_ (w1 := ?_) (by rfl) rfl ?_ ?_
     rotate_left
     ·go_simp
      rfl
     refine hK.out _ _ ⟨((cell_far (p := ⟨gb180, _, none⟩) NB171_180.out _).trans (((cell_far (p := ⟨gb180, _, none⟩) NB171_180.out _).trans (((cell_far (p := ⟨gb180, _, none⟩) NB171_180.out _).trans (hHeld.1)))))), ((cell_far (p := ⟨gb180, _, none⟩) NB171_180.out _).trans (((cell_far (p := ⟨gb180, _, none⟩) NB171_180.out _).trans (((cell_far (p := ⟨gb180, _, none⟩) NB171_180.out _).trans (hHeld.2.1)))))), ((cell_far (p := ⟨gb180, _, none⟩) NB171_180.out _).trans (((cell_far (p := ⟨gb180, _, none⟩) NB171_180.out _).trans (((cell_far (p := ⟨gb180, _, none⟩) NB171_180.out _).trans (hHeld.2.2.1)))))), ((cell_far (p := ⟨gb180, _, none⟩) NB171_180.out _).trans (((cell_far (p := ⟨gb180, _, none⟩) NB171_180.out _).trans (((cell_far (p := ⟨gb180, _, none⟩) NB171_180.out _).trans (hHeld.2.2.2.1)))))), ((cell_far (p := ⟨gb180, _, none⟩) NB179_180.out _).trans (((cell_far (p := ⟨gb180, _, none⟩) NB179_180.out _).trans (((cell_far (p := ⟨gb180, _, none⟩) NB179_180.out _).trans (hHeld.2.2.2.2.1)))))), ((cell_far (p := ⟨gb180, _, none⟩) NB179_180.out _).trans (((cell_far (p := ⟨gb180, _, none⟩) NB179_180.out _).trans (((cell_far (p := ⟨gb180, _, none⟩) NB179_180.out _).trans (hHeld.2.2.2.2.2.1)))))), ((cell_far (p := ⟨gb180, _, none⟩) NB179_180.out _).trans (((cell_far (p := ⟨gb180, _, none⟩) NB179_180.out _).trans (((cell_far (p := ⟨gb180, _, none⟩) NB179_180.out _).trans (hHeld.2.2.2.2.2.2.1)))))), ((cell_far (p := ⟨gb180, _, none⟩) NB179_180.out _).trans (((cell_far (p := ⟨gb180, _, none⟩) NB179_180.out _).trans (((cell_far (p := ⟨gb180, _, none⟩) NB179_180.out _).trans (hHeld.2.2.2.2.2.2.2))))))⟩ (fun hHeld => ?_)
     clear hK K
     refine oT 17 (bA 18 262143) HT_.out fun K hK => ?_
     have hs29 : w25.cell? ⟨gb181, 0, none⟩ = some (.string (⟨#[]⟩ : ByteArray)) := cT BK181 0
     have hfs29 := blk_frozen BK181.out 0
     have hns29_0 := NB171_181.out
     have hns29_1 := NB179_181.out
     have hns29_2 := NB180_181.out
     have hms29_0 := NB181_171.out
     have hms29_1 := NB181_179.out
     have hms29_2 := NB181_180.out
     have hs30 : w25.cell? ⟨gb181, 1, none⟩ = some (.string (⟨#[]⟩ : ByteArray)) := cT BK181 1
     have hfs30 := blk_frozen BK181.out 1
     have hns30_0 := NB171_181.out
     have hns30_1 := NB179_181.out
     have hns30_2 := NB180_181.out
     have hms30_0 := NB181_171.out
     have hms30_1 := NB181_179.out
     have hms30_2 := NB181_180.out
     have hs31 : w25.cell? ⟨gb181, 2, none⟩ = some (.string (⟨#[]⟩ : ByteArray)) := cT BK181 2
     have hfs31 := blk_frozen BK181.out 2
     have hns31_0 := NB171_181.out
     have hns31_1 := NB179_181.out
     have hns31_2 := NB180_181.out
     have hms31_0 := NB181_171.out
     have hms31_1 := NB181_179.out
     have hms31_2 := NB181_180.out
     refine skip_ (w1 := ?_) (by rfl) rfl ?_ ?_
     rotate_left
     ·go_simp
      rfl
     refine hK.out _ _ ⟨((cell_far (p := ⟨gb181, _, none⟩) NB171_181.out _).trans (((cell_far (p := ⟨gb181, _, none⟩) NB171_181.out _).trans (((cell_far (p := ⟨gb181, _, none⟩) NB171_181.out _).trans (hHeld.1)))))), ((cell_far (p := ⟨gb181, _, none⟩) NB171_181.out _).trans (((cell_far (p := ⟨gb181, _, none⟩) NB171_181.out _).trans (((cell_far (p := ⟨gb181, _, none⟩) NB171_181.out _).trans (hHeld.2.1)))))), ((cell_far (p := ⟨gb181, _, none⟩) NB171_181.out _).trans (((cell_far (p := ⟨gb181, _, none⟩) NB171_181.out _).trans (((cell_far (p := ⟨gb181, _, none⟩) NB171_181.out _).trans (hHeld.2.2.1)))))), ((cell_far (p := ⟨gb181, _, none⟩) NB171_181.out _).trans (((cell_far (p := ⟨gb181, _, none⟩) NB171_181.out _).trans (((cell_far (p := ⟨gb181, _, none⟩) NB171_181.out _).trans (hHeld.2.2.2.1)))))), ((cell_far (p := ⟨gb181, _, none⟩) NB179_181.out _).trans (((cell_far (p := ⟨gb181, _, none⟩) NB179_181.out _).trans (((cell_far (p := ⟨gb181, _, none⟩) NB179_181.out _).trans (hHeld.2.2.2.2.1)))))), ((cell_far (p := ⟨gb181, _, none⟩) NB179_181.out _).trans (((cell_far (p := ⟨gb181, _, none⟩) NB179_181.out _).trans (((cell_far (p := ⟨gb181, _, none⟩) NB179_181.out _).trans (hHeld.2.2.2.2.2.1)))))), ((cell_far (p := ⟨gb181, _, none⟩) NB179_181.out _).trans (((cell_far (p := ⟨gb181, _, none⟩) NB179_181.out _).trans (((cell_far (p := ⟨gb181, _, none⟩) NB179_181.out _).trans (hHeld.2.2.2.2.2.2.1)))))), ((cell_far (p := ⟨gb181, _, none⟩) NB179_181.out _).trans (((cell_far (p := ⟨gb181, _, none⟩) NB179_181.out _).trans (((cell_far (p := ⟨gb181, _, none⟩) NB179_181.out _).trans (hHeld.2.2.2.2.2.2.2))))))⟩ (fun hHeld => ?_)
     clear hK K
     refine done_ (done_of HT_.out (by kernel_rfl)) ?_
     have hnb32 := NB180_171.out
     have hnc32 := NB171_180.out
     have hnb33 := NB180_179.out
     have hnc33 := NB179_180.out
     have hnb34 := NB180_181.out
     have hnc34 := NB181_180.out
     have hcz35_0 : w25.cell? ⟨gb180, 0, none⟩ = some (.string (⟨#[]⟩ : ByteArray)) := cT BK180 0
     have hcz35_1 : w25.cell? ⟨gb180, 1, none⟩ = some (.string (⟨#[]⟩ : ByteArray)) := cT BK180 1
     have hcz35_2 : w25.cell? ⟨gb180, 2, none⟩ = some (.string (⟨#[]⟩ : ByteArray)) := cT BK180 2
     have hfz35_0 := blk_frozen BK180.out 0
     have hfz35_1 := blk_frozen BK180.out 1
     have hfz35_2 := blk_frozen BK180.out 2
     have hnb36 := NB181_171.out
     have hnc36 := NB171_181.out
     have hnb37 := NB181_179.out
     have hnc37 := NB179_181.out
     have hcz38_0 : w25.cell? ⟨gb181, 0, none⟩ = some (.string (⟨#[]⟩ : ByteArray)) := cT BK181 0
     have hcz38_1 : w25.cell? ⟨gb181, 1, none⟩ = some (.string (⟨#[]⟩ : ByteArray)) := cT BK181 1
     have hcz38_2 : w25.cell? ⟨gb181, 2, none⟩ = some (.string (⟨#[]⟩ : ByteArray)) := cT BK181 2
     have hfz38_0 := blk_frozen BK181.out 0
     have hfz38_1 := blk_frozen BK181.out 1
     have hfz38_2 := blk_frozen BK181.out 2
     try go_wp2
     have n0_ : Aside0 (Kd.R Kd.string 9 ((((((w25.setCell ⟨gb180, 0, none⟩ (.string t164)).setCell ⟨gb180, 1, none⟩ (.string t165)).setCell ⟨gb180, 2, none⟩ (.string t166)).setCell ⟨gb181, 0, none⟩ (.string t172)).setCell ⟨gb181, 1, none⟩ (.string t173)).setCell ⟨gb181, 2, none⟩ (.string t174)) w.heap.size (fun k_ => some k_ ≠ (.slice Ao14 t175.length co14 : Value).ownBlock) (.slice Ao9 t167.length co9) t167) := ⟨by (with_reducible repeat (first | apply Kd.R_alloc | apply Kd.R_drewN | apply Kd.R_drew)); exact Kd.R_mono (Kd.R_far (p := ⟨gb181, 2, none⟩) (Kd.R_far (p := ⟨gb181, 1, none⟩) (Kd.R_far (p := ⟨gb181, 0, none⟩) (Kd.R_far (p := ⟨gb180, 2, none⟩) (Kd.R_far (p := ⟨gb180, 1, none⟩) (Kd.R_far (p := ⟨gb180, 0, none⟩) (Kd.R_types (Kd.R_types HO_172003.out BK180.out (by decide)) BK181.out (by decide)) (fun _ hk => hk.1.2) (.string t164)) (fun _ hk => hk.1.2) (.string t165)) (fun _ hk => hk.1.2) (.string t166)) (fun _ hk => hk.2) (.string t172)) (fun _ hk => hk.2) (.string t173)) (fun _ hk => hk.2) (.string t174)) (fun _ hk => hk.1.1)⟩
     have n1_ : Aside0 (Kd.R Kd.string 9 ((((((w25.setCell ⟨gb180, 0, none⟩ (.string t164)).setCell ⟨gb180, 1, none⟩ (.string t165)).setCell ⟨gb180, 2, none⟩ (.string t166)).setCell ⟨gb181, 0, none⟩ (.string t172)).setCell ⟨gb181, 1, none⟩ (.string t173)).setCell ⟨gb181, 2, none⟩ (.string t174)) w.heap.size (fun k_ => some k_ ≠ (.slice Ao9 t167.length co9 : Value).ownBlock) (.slice Ao14 t175.length co14) t175) := ⟨by (with_reducible repeat (first | apply Kd.R_alloc | apply Kd.R_drewN | apply Kd.R_drew)); exact Kd.R_mono (Kd.R_far (p := ⟨gb181, 2, none⟩) (Kd.R_far (p := ⟨gb181, 1, none⟩) (Kd.R_far (p := ⟨gb181, 0, none⟩) (Kd.R_far (p := ⟨gb180, 2, none⟩) (Kd.R_far (p := ⟨gb180, 1, none⟩) (Kd.R_far (p := ⟨gb180, 0, none⟩) (Kd.R_types (Kd.R_types HO_180003.out BK180.out (by decide)) BK181.out (by decide)) (fun _ hk => hk.1.2) (.string t164)) (fun _ hk => hk.1.2) (.string t165)) (fun _ hk => hk.1.2) (.string t166)) (fun _ hk => hk.2) (.string t172)) (fun _ hk => hk.2) (.string t173)) (fun _ hk => hk.2) (.string t174)) (fun _ hk => hk.1.1)⟩
     have n2_ : Aside0 (((((((w25.setCell ⟨gb180, 0, none⟩ (.string t164)).setCell ⟨gb180, 1, none⟩ (.string t165)).setCell ⟨gb180, 2, none⟩ (.string t166)).setCell ⟨gb181, 0, none⟩ (.string t172)).setCell ⟨gb181, 1, none⟩ (.string t173)).setCell ⟨gb181, 2, none⟩ (.string t174)).heap[gb171]? = some (.cells #[.string t164, .string t165, .string t166, .slice Ao9 t167.length co9] 36 (0, 0))) := ⟨by (with_reducible repeat (first | apply bn | apply bd | apply ba)); refine blk_far ?_ NB171_181.out _; (with_reducible repeat (first | apply bn | apply bd | apply ba)); refine blk_far ?_ NB171_181.out _; (with_reducible repeat (first | apply bn | apply bd | apply ba)); refine blk_far ?_ NB171_181.out _; (with_reducible repeat (first | apply bn | apply bd | apply ba)); refine blk_far ?_ NB171_180.out _; (with_reducible repeat (first | apply bn | apply bd | apply ba)); refine blk_far ?_ NB171_180.out _; (with_reducible repeat (first | apply bn | apply bd | apply ba)); refine blk_far ?_ NB171_180.out _; exact bT BK171.out⟩
     have n3_ : Aside0 (((((((w25.setCell ⟨gb180, 0, none⟩ (.string t164)).setCell ⟨gb180, 1, none⟩ (.string t165)).setCell ⟨gb180, 2, none⟩ (.string t166)).setCell ⟨gb181, 0, none⟩ (.string t172)).setCell ⟨gb181, 1, none⟩ (.string t173)).setCell ⟨gb181, 2, none⟩ (.string t174)).heap[gb179]? = some (.cells #[.string t172, .string t173, .string t174, .slice Ao14 t175.length co14] 36 (0, 0))) := ⟨by (with_reducible repeat (first | apply bn | apply bd | apply ba)); refine blk_far ?_ NB179_181.out _; (with_reducible repeat (first | apply bn | apply bd | apply ba)); refine blk_far ?_ NB179_181.out _; (with_reducible repeat (first | apply bn | apply bd | apply ba)); refine blk_far ?_ NB179_181.out _; (with_reducible repeat (first | apply bn | apply bd | apply ba)); refine blk_far ?_ NB179_180.out _; (with_reducible repeat (first | apply bn | apply bd | apply ba)); refine blk_far ?_ NB179_180.out _; (with_reducible repeat (first | apply bn | apply bd | apply ba)); refine blk_far ?_ NB179_180.out _; exact bT BK179.out⟩
     have n4_ : Aside0 (((((((w25.setCell ⟨gb180, 0, none⟩ (.string t164)).setCell ⟨gb180, 1, none⟩ (.string t165)).setCell ⟨gb180, 2, none⟩ (.string t166)).setCell ⟨gb181, 0, none⟩ (.string t172)).setCell ⟨gb181, 1, none⟩ (.string t173)).setCell ⟨gb181, 2, none⟩ (.string t174)).heap[gb180]? = some (.cells #[.string t164, .string t165, .string t166] 49 (0, 0))) := ⟨by (with_reducible repeat (first | apply bn | apply bd | apply ba)); refine blk_far ?_ NB180_181.out _; (with_reducible repeat (first | apply bn | apply bd | apply ba)); refine blk_far ?_ NB180_181.out _; (with_reducible repeat (first | apply bn | apply bd | apply ba)); refine blk_far ?_ NB180_181.out _; (with_reducible repeat (first | apply bn | apply bd | apply ba)); refine blk_put (cs := #[.string t164, .string t165, .string (⟨#[]⟩ : ByteArray)]) ?_ 2 _ rfl; (with_reducible repeat (first | apply bn | apply bd | apply ba)); refine blk_put (cs := #[.string t164, .string (⟨#[]⟩ : ByteArray), .string (⟨#[]⟩ : ByteArray)]) ?_ 1 _ rfl; (with_reducible repeat (first | apply bn | apply bd | apply ba)); refine blk_put (cs := #[.string (⟨#[]⟩ : ByteArray), .string (⟨#[]⟩ : ByteArray), .string (⟨#[]⟩ : ByteArray)]) ?_ 0 _ rfl; exact bT BK180.out⟩
     have n5_ : Aside0 (((((((w25.setCell ⟨gb180, 0, none⟩ (.string t164)).setCell ⟨gb180, 1, none⟩ (.string t165)).setCell ⟨gb180, 2, none⟩ (.string t166)).setCell ⟨gb181, 0, none⟩ (.string t172)).setCell ⟨gb181, 1, none⟩ (.string t173)).setCell ⟨gb181, 2, none⟩ (.string t174)).heap[gb181]? = some (.cells #[.string t172, .string t173, .string t174] 49 (0, 0))) := ⟨by (with_reducible repeat (first | apply bn | apply bd | apply ba)); refine blk_put (cs := #[.string t172, .string t173, .string (⟨#[]⟩ : ByteArray)]) ?_ 2 _ rfl; (with_reducible repeat (first | apply bn | apply bd | apply ba)); refine blk_put (cs := #[.string t172, .string (⟨#[]⟩ : ByteArray), .string (⟨#[]⟩ : ByteArray)]) ?_ 1 _ rfl; (with_reducible repeat (first | apply bn | apply bd | apply ba)); refine blk_put (cs := #[.string (⟨#[]⟩ : ByteArray), .string (⟨#[]⟩ : ByteArray), .string (⟨#[]⟩ : ByteArray)]) ?_ 0 _ rfl; (with_reducible repeat (first | apply bn | apply bd | apply ba)); refine blk_far ?_ NB181_180.out _; (with_reducible repeat (first | apply bn | apply bd | apply ba)); refine blk_far ?_ NB181_180.out _; (with_reducible repeat (first | apply bn | apply bd | apply ba)); refine blk_far ?_ NB181_180.out _; exact bT BK181.out⟩
     have n6_ : Aside0 (Below w.heap.size w ((((((w25.setCell ⟨gb180, 0, none⟩ (.string t164)).setCell ⟨gb180, 1, none⟩ (.string t165)).setCell ⟨gb180, 2, none⟩ (.string t166)).setCell ⟨gb181, 0, none⟩ (.string t172)).setCell ⟨gb181, 1, none⟩ (.string t173)).setCell ⟨gb181, 2, none⟩ (.string t174))) := ⟨by repeat (first | (with_reducible first | exact HB.out | apply pA | apply pN | apply pD | refine eU ?_ (by assumption)) | exact HB.out)⟩
     (try clear HO_172003)
     (try clear HO_180003)
     (try clear BK171)
     (try clear BK179)
     (try clear BK180)
     (try clear BK181)
     (try clear HB)
     generalize ((((((w25.setCell ⟨gb180, 0, none⟩ (.string t164)).setCell ⟨gb180, 1, none⟩ (.string t165)).setCell ⟨gb180, 2, none⟩ (.string t166)).setCell ⟨gb181, 0, none⟩ (.string t172)).setCell ⟨gb181, 1, none⟩ (.string t173)).setCell ⟨gb181, 2, none⟩ (.string t174)) = w39 at n0_ n1_ n2_ n3_ n4_ n5_ n6_ ⊢
     have HO_172003 := n0_
     have HO_180003 := n1_
     have BK171 := n2_
     have BK179 := n3_
     have BK180 := n4_
     have BK181 := n5_
     have HB := n6_
     clear n0_ n1_ n2_ n3_ n4_ n5_ n6_
     replace HO_172003 := am (Kd.R_drew HO_172003.out)
     replace HO_180003 := am (Kd.R_drew HO_180003.out)
     replace BK171 := am (blk_drew BK171.out)
     replace BK179 := am (blk_drew BK179.out)
     replace BK180 := am (blk_drew BK180.out)
     replace BK181 := am (blk_drew BK181.out)
     replace HB := am (below_drew1 HB.out)
     refine start_ (n := 19) (S := fun w' => w'.cell? ⟨gb180, 0, none⟩ = some (.string t164) ∧ w'.cell? ⟨gb180, 1, none⟩ = some (.string t165) ∧ w'.cell? ⟨gb180, 2, none⟩ = some (.string t166) ∧ w'.cell? ⟨gb181, 0, none⟩ = some (.string t172) ∧ w'.cell? ⟨gb181, 1, none⟩ = some (.string t173) ∧ w'.cell? ⟨gb181, 2, none⟩ = some (.string t174)) (ds := []) (bA 19 0) (by kernel_rfl) rfl (by kernel_rfl) ⟨cT BK180 0, cT BK180 1, cT BK180 2, cT BK181 0, cT BK181 1, cT BK181 2⟩ (fun hHeld => ?_); refine with_tabW version_Cmp.tab7 version_Cmp.bits7 (fun HT_ HW_ => ?_)
     generalize w39.drew = w40 at HO_172003 HO_180003 BK171 BK179 BK180 BK181 HB hHeld ⊢
     refine pT 0 47 (bA 19 1) HT_.out ?_
     refine pT 2 49 (bA 19 5) HT_.out ?_
     refine pT 5 52 (bA 19 37) HT_.out ?_
     refine pT 7 54 (bA 19 165) HT_.out ?_
     refine pT 10 57 (bA 19 1189) HT_.out ?_
     refine pT 12 59 (bA 19 5285) HT_.out ?_
     refine tT 1 48 (bA 19 5287) HT_.out HW_.out hHeld ?_ (hy := by rintro w' ⟨s0, s1, s2, s3, s4, s5⟩; go_simp; with_reducible rfl)
     refine tT 3 50 (bA 19 5295) HT_.out HW_.out hHeld ?_ (hy := by rintro w' ⟨s0, s1, s2, s3, s4, s5⟩; go_simp; with_reducible rfl)
     refine tT 6 53 (bA 19 5359) HT_.out HW_.out hHeld ?_ (hy := by rintro w' ⟨s0, s1, s2, s3, s4, s5⟩; go_simp; with_reducible rfl)
     refine tT 8 55 (bA 19 5615) HT_.out HW_.out hHeld ?_ (hy := by rintro w' ⟨s0, s1, s2, s3, s4, s5⟩; go_simp; with_reducible rfl)
     refine tT 11 58 (bA 19 7663) HT_.out HW_.out hHeld ?_ (hy := by rintro w' ⟨s0, s1, s2, s3, s4, s5⟩; go_simp; with_reducible rfl)
     refine tT 13 60 (bA 19 15855) HT_.out HW_.out hHeld ?_ (hy := by rintro w' ⟨s0, s1, s2, s3, s4, s5⟩; go_simp; with_reducible rfl)
     refine oT 4 (bA 19 15871) HT_.out fun K hK => ?_
     refine gS Tryd.func24 #[.string t164, .string t172] ?_
     with_reducible refine (version_numbers.calls kj4 t164 t172 t182 _ A18.out).mono ?_
     rintro e w41 ⟨rfl, hb⟩
     refine ⟨_, rfl, ?_⟩
     replace HO_172003 := am (rB HO_172003.out hb)
     replace HO_180003 := am (rB HO_180003.out hb)
     replace BK171 := am (bB BK171.out hb)
     replace BK179 := am (bB BK179.out hb)
     replace BK180 := am (bB BK180.out hb)
     replace BK181 := am (bB BK181.out hb)
     replace HB := am (sT HB.out hb)
     (try clear hb)
     (try clear hb2)
     (try clear hk)
     (try clear hi)
     refine hK.out _ _ ⟨cT BK180 0, cT BK180 1, cT BK180 2, cT BK181 0, cT BK181 1, cT BK181 2⟩ (fun hHeld => ?_)
     clear hK K
     refine mN 51 ?_
     refine oT 9 (bA 19 16383) HT_.out fun K hK => ?_
     refine gS Tryd.func24 #[.string t165, .string t173] ?_
     with_reducible refine (version_numbers.calls kj4 t165 t173 t183 _ A19.out).mono ?_
     rintro e w42 ⟨rfl, hb⟩
     refine ⟨_, rfl, ?_⟩
     replace HO_172003 := am (rB HO_172003.out hb)
     replace HO_180003 := am (rB HO_180003.out hb)
     replace BK171 := am (bB BK171.out hb)
     replace BK179 := am (bB BK179.out hb)
     replace BK180 := am (bB BK180.out hb)
     replace BK181 := am (bB BK181.out hb)
     replace HB := am (sT HB.out hb)
     (try clear hb)
     (try clear hb2)
     (try clear hk)
     (try clear hi)
     refine hK.out _ _ ⟨cT BK180 0, cT BK180 1, cT BK180 2, cT BK181 0, cT BK181 1, cT BK181 2⟩ (fun hHeld => ?_)
     clear hK K
     refine mN 56 ?_
     refine oT 14 (bA 19 32767) HT_.out fun K hK => ?_
     refine gS Tryd.func24 #[.string t166, .string t174] ?_
     with_reducible refine (version_numbers.calls kj4 t166 t174 t184 _ A20.out).mono ?_
     rintro e w43 ⟨rfl, hb⟩
     refine ⟨_, rfl, ?_⟩
     replace HO_172003 := am (rB HO_172003.out hb)
     replace HO_180003 := am (rB HO_180003.out hb)
     replace BK171 := am (bB BK171.out hb)
     replace BK179 := am (bB BK179.out hb)
     replace BK180 := am (bB BK180.out hb)
     replace BK181 := am (bB BK181.out hb)
     replace HB := am (sT HB.out hb)
     (try clear hb)
     (try clear hb2)
     (try clear hk)
     (try clear hi)
     refine hK.out _ _ ⟨cT BK180 0, cT BK180 1, cT BK180 2, cT BK181 0, cT BK181 1, cT BK181 2⟩ (fun hHeld => ?_)
     clear hK K
     refine mN 61 ?_
     refine oT 15 (bA 19 65535) HT_.out fun K hK => ?_
     refine Kd.R_lit_step (Kd.int .i64) _ 3 ?hg (N := 62) ?hd (xs := ([t182, t183, t184] : List Int)) (inner := [.int .i64 t182, .int .i64 t183, .int .i64 t184]) (ok := fun _ => True) (okp := fun _ => True) ?hr ?hp (fun _ hk => hk) trivial (Below.refl _ _) (Nat.le_refl _) (by simp) ?_; (case hd => rfl); (case hg => rfl); (case hr => first | (go_simp; done) | (go_simp; rfl)); (case hp => exact (Reps.one (show Kd.M (Kd.int .i64) _ _ _ t182 [.int .i64 t182] from rfl) (Reps.one (show Kd.M (Kd.int .i64) _ _ _ t183 [.int .i64 t183] from rfl) (Reps.one (show Kd.M (Kd.int .i64) _ _ _ t184 [.int .i64 t184] from rfl) (Reps.none _ _)))))
     intro v186 w44 ho45 hb hg_ hnew_
     clear hg_ hnew_
     (first | rw [← Ny185.out] at ho45 | (simp only [Int.reduceToNat] at ho45; rw [← Ny185.out] at ho45))
     replace HO_172003 := am (rB HO_172003.out hb)
     replace HO_180003 := am (rB HO_180003.out hb)
     have HO187 := am (Kd.R_lower ho45 (below_size (eT HB.out)))
     replace BK171 := am (bB BK171.out hb)
     replace BK179 := am (bB BK179.out hb)
     replace BK180 := am (bB BK180.out hb)
     replace BK181 := am (bB BK181.out hb)
     replace HB := am (sT HB.out hb)
     clear hb ho45
     obtain ⟨Ao46, co46, eo46⟩ := Kd.R_slice HO187.out
     (first | subst eo46 | (injection eo46 with f1_ f2_ f3_; have f4_ := f1_.symm; have f5_ := f3_.symm; clear f1_ f2_ f3_; subst f4_; subst f5_))
     refine hK.out _ _ ⟨cT BK180 0, cT BK180 1, cT BK180 2, cT BK181 0, cT BK181 1, cT BK181 2⟩ (fun hHeld => ?_)
     clear hK K
     refine mN 62 ?_
     refine oT 16 (bA 19 131071) HT_.out fun K hK => ?_
     refine gS Tryd.func23 #[.slice Ao46 y185.length co46] ?_
     with_reducible refine (cmp_Or_int.calls kj4 _ _ y185 t188 _ ?side1 ?side2 A21.out).mono ?_
     (case side1 => repeat (first | exact (Kd.R_reads' HO187.out).2.2 | (with_reducible refine Kd.C_alloc ?_ _) | (with_reducible refine Kd.C_drewN ?_ _) | (with_reducible refine Kd.C_drew ?_)))
     (case side2 => exact (Kd.R_reads' HO187.out).2.1)
     rintro e w' ⟨rfl, ⟨nd, rfl⟩⟩
     refine ⟨_, rfl, ?_⟩
     refine hK.out _ _ ⟨cT BK180 0, cT BK180 1, cT BK180 2, cT BK181 0, cT BK181 1, cT BK181 2⟩ (fun hHeld => ?_)
     clear hK K
     refine mN 63 ?_
     refine pT 17 4 (bA 19 262143) HT_.out ?_
     refine pT 18 5 (bA 19 524287) HT_.out ?_
     refine done_ (done_of HT_.out (by kernel_rfl)) ?_
     try go_wp2
     go_ret2
     exact ⟨by first | rfl | (simp [errW_none, errW_some] <;> rfl) | (simp [*, errW_none, errW_some] <;> rfl), eT HB.out⟩
    ·rw [if_neg c17] at H
     have c17b0 : (!(t164.toList == t172.toList) || (!(t165.toList == t173.toList) || (!(t166.toList == t174.toList)))) = false := by simpa using c17
     clear c17
     have HC47 := Aside0.mk H
     clear H
     try go_wp2
     replace HO_172003 := am (Kd.R_drew HO_172003.out)
     replace HO_180003 := am (Kd.R_drew HO_180003.out)
     replace BK171 := am (blk_drew BK171.out)
     replace BK179 := am (blk_drew BK179.out)
     replace HB := am (below_drew1 HB.out)
     refine start_ (n := 18) (S := fun w' => w'.cell? ⟨gb171, 0, none⟩ = some (.string t164) ∧ w'.cell? ⟨gb171, 1, none⟩ = some (.string t165) ∧ w'.cell? ⟨gb171, 2, none⟩ = some (.string t166) ∧ w'.cell? ⟨gb171, 3, none⟩ = some (.slice Ao9 t167.length co9) ∧ w'.cell? ⟨gb179, 0, none⟩ = some (.string t172) ∧ w'.cell? ⟨gb179, 1, none⟩ = some (.string t173) ∧ w'.cell? ⟨gb179, 2, none⟩ = some (.string t174) ∧ w'.cell? ⟨gb179, 3, none⟩ = some (.slice Ao14 t175.length co14)) (ds := []) (bA 18 0) (by kernel_rfl) rfl (by kernel_rfl) ⟨cT BK171 0, cT BK171 1, cT BK171 2, cT BK171 3, cT BK179 0, cT BK179 1, cT BK179 2, cT BK179 3⟩ (fun hHeld => ?_); refine with_tabW version_Cmp.tab5 version_Cmp.bits5 (fun HT_ HW_ => ?_)
     generalize wc.drew = w48 at HO_172003 HO_180003 BK171 BK179 HB hHeld ⊢
     refine pT 0 30 (bA 18 1) HT_.out ?_
     refine pT 2 32 (bA 18 5) HT_.out ?_
     refine pT 4 34 (bA 18 21) HT_.out ?_
     refine pT 7 37 (bA 18 149) HT_.out ?_
     refine pT 9 39 (bA 18 661) HT_.out ?_
     refine pT 11 41 (bA 18 2709) HT_.out ?_
     refine tT 1 31 (bA 18 2711) HT_.out HW_.out hHeld ?_ (hy := by rintro w' ⟨s0, s1, s2, s3, s4, s5, s6, s7⟩; go_simp; with_reducible rfl)
     refine tT 3 33 (bA 18 2719) HT_.out HW_.out hHeld ?_ (hy := by rintro w' ⟨s0, s1, s2, s3, s4, s5, s6, s7⟩; go_simp; with_reducible rfl)
     refine tT 5 35 (bA 18 2751) HT_.out HW_.out hHeld ?_ (hy := by rintro w' ⟨s0, s1, s2, s3, s4, s5, s6, s7⟩; go_simp; with_reducible rfl)
     refine pT 6 36 (bA 18 2815) HT_.out ?_
     refine tT 8 38 (bA 18 3071) HT_.out HW_.out hHeld ?_ (hy := by rintro w' ⟨s0, s1, s2, s3, s4, s5, s6, s7⟩; go_simp; with_reducible rfl)
     refine tT 10 40 (bA 18 4095) HT_.out HW_.out hHeld ?_ (hy := by rintro w' ⟨s0, s1, s2, s3, s4, s5, s6, s7⟩; go_simp; with_reducible rfl)
     refine tT 12 42 (bA 18 8191) HT_.out HW_.out hHeld ?_ (hy := by rintro w' ⟨s0, s1, s2, s3, s4, s5, s6, s7⟩; go_simp; with_reducible rfl)
     refine pT 13 43 (bA 18 16383) HT_.out ?_
     refine join_ (σ := Nat × Nat) 2 (bA 18 65535) (fun s_ => [(10, .pointer (some ⟨s_.1, 0, none⟩)), (11, .pointer (some ⟨s_.2, 0, none⟩))]) (fun s_ w' => (w'.cell? ⟨gb171, 0, none⟩ = some (.string t164) ∧ w'.cell? ⟨gb171, 1, none⟩ = some (.string t165) ∧ w'.cell? ⟨gb171, 2, none⟩ = some (.string t166) ∧ w'.cell? ⟨gb171, 3, none⟩ = some (.slice Ao9 t167.length co9) ∧ w'.cell? ⟨gb179, 0, none⟩ = some (.string t172) ∧ w'.cell? ⟨gb179, 1, none⟩ = some (.string t173) ∧ w'.cell? ⟨gb179, 2, none⟩ = some (.string t174) ∧ w'.cell? ⟨gb179, 3, none⟩ = some (.slice Ao14 t175.length co14)) ∧ (Kd.R Kd.string 9 w' w.heap.size (fun k_ => some k_ ≠ (.slice Ao14 t175.length co14 : Value).ownBlock) (.slice Ao9 t167.length co9) t167) ∧ (Kd.R Kd.string 9 w' w.heap.size (fun k_ => some k_ ≠ (.slice Ao9 t167.length co9 : Value).ownBlock) (.slice Ao14 t175.length co14) t175) ∧ (w'.heap[gb171]? = some (.cells #[.string t164, .string t165, .string t166, .slice Ao9 t167.length co9] 36 (0, 0))) ∧ (w'.heap[gb179]? = some (.cells #[.string t172, .string t173, .string t174, .slice Ao14 t175.length co14] 36 (0, 0))) ∧ (w'.heap[s_.1]? = some (.cells #[.string (⟨#[]⟩ : ByteArray), .string (⟨#[]⟩ : ByteArray), .string (⟨#[]⟩ : ByteArray)] 49 (0, 0))) ∧ (w'.heap[s_.2]? = some (.cells #[.string (⟨#[]⟩ : ByteArray), .string (⟨#[]⟩ : ByteArray), .string (⟨#[]⟩ : ByteArray)] 49 (0, 0))) ∧ (w.heap.size ≤ s_.1) ∧ (w.heap.size ≤ s_.1) ∧ (gb171 ≠ s_.1) ∧ (s_.1 ≠ gb171) ∧ (gb179 ≠ s_.1) ∧ (s_.1 ≠ gb179) ∧ (s_.2 ≠ s_.1) ∧ (s_.1 ≠ s_.2) ∧ (w.heap.size ≤ s_.2) ∧ (w.heap.size ≤ s_.2) ∧ (gb171 ≠ s_.2) ∧ (s_.2 ≠ gb171) ∧ (gb179 ≠ s_.2) ∧ (s_.2 ≠ gb179) ∧ (Below w.heap.size w w')) ?_ ?_
     rotate_left
     ·intro hCont
      refine two_ (i := 14) (j := 15) (Ni := some 10) (Nj := some 11) (bA 18 32767) (bA 18 49151) rfl rfl rfl rfl (two_of HT_.out (by kernel_rfl)) (by decide) (by decide) (fun K hK => ?_) (fun K hK => ?_)
      ·skip
       refine box_step ?hg (N := 10) ?hd (cs := #[.string (⟨#[]⟩ : ByteArray), .string (⟨#[]⟩ : ByteArray), .string (⟨#[]⟩ : ByteArray)]) (t := 49) ?hr ?_; (case hd => rfl); (case hg => rfl); (case hr => first | (go_simp; done) | (go_simp; rfl))
       intro gb180 hg w49 hbox hb
       replace HO_172003 := am (rB HO_172003.out hb)
       replace HO_180003 := am (rB HO_180003.out hb)
       have BK180 := am (hbox)
       have GW180 := am ((gT hg HB.out))
       have GE180 := am ((gT hg HB.out))
       have NB171_180 := am ((nT BK171.out hg))
       have NB180_171 := am ((mT BK171.out hg))
       have NB179_180 := am ((nT BK179.out hg))
       have NB180_179 := am ((mT BK179.out hg))
       replace BK171 := am (bB BK171.out hb)
       replace BK179 := am (bB BK179.out hb)
       replace HB := am (sT HB.out hb)
       clear hb hbox hg
       refine hK.out _ _ ⟨cT BK171 0, cT BK171 1, cT BK171 2, cT BK171 3, cT BK179 0, cT BK179 1, cT BK179 2, cT BK179 3⟩ (fun hHeld => ?_)
       clear hK K
       refine mN 10 ?_
       refine oT 15 (bA 18 65535) HT_.out fun K hK => ?_
       refine box_step ?hg (N := 11) ?hd (cs := #[.string (⟨#[]⟩ : ByteArray), .string (⟨#[]⟩ : ByteArray), .string (⟨#[]⟩ : ByteArray)]) (t := 49) ?hr ?_; (case hd => rfl); (case hg => rfl); (case hr => first | (go_simp; done) | (go_simp; rfl))
       intro gb181 hg w50 hbox hb
       replace HO_172003 := am (rB HO_172003.out hb)
       replace HO_180003 := am (rB HO_180003.out hb)
       have BK181 := am (hbox)
       have GW181 := am ((gT hg HB.out))
       have GE181 := am ((gT hg HB.out))
       have NB171_181 := am ((nT BK171.out hg))
       have NB181_171 := am ((mT BK171.out hg))
       have NB179_181 := am ((nT BK179.out hg))
       have NB181_179 := am ((mT BK179.out hg))
       have NB180_181 := am ((nT BK180.out hg))
       have NB181_180 := am ((mT BK180.out hg))
       replace BK171 := am (bB BK171.out hb)
       replace BK179 := am (bB BK179.out hb)
       replace BK180 := am (bB BK180.out hb)
       replace HB := am (sT HB.out hb)
       clear hb hbox hg
       refine hK.out _ _ ⟨cT BK171 0, cT BK171 1, cT BK171 2, cT BK171 3, cT BK179 0, cT BK179 1, cT BK179 2, cT BK179 3⟩ (fun hHeld => ?_)
       clear hK K
       refine mN 11 ?_
       exact norm_ (by simp only [putAll, Act.put, List.setIfInBounds_toArray, List.set_cons_zero, List.set_cons_succ]) (hCont (gb180, gb181) _ ⟨hHeld, (rT HO_172003.out), (rT HO_180003.out), (bT BK171.out), (bT BK179.out), (bT BK180.out), (bT BK181.out), GW180.out, GE180.out, NB171_180.out, NB180_171.out, NB179_180.out, NB180_179.out, NB181_180.out, NB180_181.out, GW181.out, GE181.out, NB171_181.out, NB181_171.out, NB179_181.out, NB181_179.out, (eT HB.out)⟩)
      ·skip
       refine box_step ?hg (N := 11) ?hd (cs := #[.string (⟨#[]⟩ : ByteArray), .string (⟨#[]⟩ : ByteArray), .string (⟨#[]⟩ : ByteArray)]) (t := 49) ?hr ?_; (case hd => rfl); (case hg => rfl); (case hr => first | (go_simp; done) | (go_simp; rfl))
       intro gb181 hg w49 hbox hb
       replace HO_172003 := am (rB HO_172003.out hb)
       replace HO_180003 := am (rB HO_180003.out hb)
       have BK181 := am (hbox)
       have GW181 := am ((gT hg HB.out))
       have GE181 := am ((gT hg HB.out))
       have NB171_181 := am ((nT BK171.out hg))
       have NB181_171 := am ((mT BK171.out hg))
       have NB179_181 := am ((nT BK179.out hg))
       have NB181_179 := am ((mT BK179.out hg))
       replace BK171 := am (bB BK171.out hb)
       replace BK179 := am (bB BK179.out hb)
       replace HB := am (sT HB.out hb)
       clear hb hbox hg
       refine hK.out _ _ ⟨cT BK171 0, cT BK171 1, cT BK171 2, cT BK171 3, cT BK179 0, cT BK179 1, cT BK179 2, cT BK179 3⟩ (fun hHeld => ?_)
       clear hK K
       refine mN 11 ?_
       refine oT 14 (bA 18 65535) HT_.out fun K hK => ?_
       refine box_step ?hg (N := 10) ?hd (cs := #[.string (⟨#[]⟩ : ByteArray), .string (⟨#[]⟩ : ByteArray), .string (⟨#[]⟩ : ByteArray)]) (t := 49) ?hr ?_; (case hd => rfl); (case hg => rfl); (case hr => first | (go_simp; done) | (go_simp; rfl))
       intro gb180 hg w50 hbox hb
       replace HO_172003 := am (rB HO_172003.out hb)
       replace HO_180003 := am (rB HO_180003.out hb)
       have BK180 := am (hbox)
       have GW180 := am ((gT hg HB.out))
       have GE180 := am ((gT hg HB.out))
       have NB171_180 := am ((nT BK171.out hg))
       have NB180_171 := am ((mT BK171.out hg))
       have NB179_180 := am ((nT BK179.out hg))
       have NB180_179 := am ((mT BK179.out hg))
       have NB181_180 := am ((nT BK181.out hg))
       have NB180_181 := am ((mT BK181.out hg))
       replace BK171 := am (bB BK171.out hb)
       replace BK179 := am (bB BK179.out hb)
       replace BK181 := am (bB BK181.out hb)
       replace HB := am (sT HB.out hb)
       clear hb hbox hg
       refine hK.out _ _ ⟨cT BK171 0, cT BK171 1, cT BK171 2, cT BK171 3, cT BK179 0, cT BK179 1, cT BK179 2, cT BK179 3⟩ (fun hHeld => ?_)
       clear hK K
       refine mN 10 ?_
       exact norm_ (by simp only [putAll, Act.put, List.setIfInBounds_toArray, List.set_cons_zero, List.set_cons_succ]) (hCont (gb180, gb181) _ ⟨hHeld, (rT HO_172003.out), (rT HO_180003.out), (bT BK171.out), (bT BK179.out), (bT BK180.out), (bT BK181.out), GW180.out, GE180.out, NB171_180.out, NB180_171.out, NB179_180.out, NB180_179.out, NB181_180.out, NB180_181.out, GW181.out, GE181.out, NB171_181.out, NB181_171.out, NB179_181.out, NB181_179.out, (eT HB.out)⟩)
     rintro ⟨gb180, gb181⟩ w51 ⟨hS_, h0_, h1_, h2_, h3_, h4_, h5_, h6_, h7_, h8_, h9_, h10_, h11_, h12_, h13_, h14_, h15_, h16_, h17_, h18_, h19_, h20_⟩
     replace HO_172003 : Aside0 (Kd.R Kd.string 9 w51 w.heap.size (fun k_ => some k_ ≠ (.slice Ao14 t175.length co14 : Value).ownBlock) (.slice Ao9 t167.length co9) t167) := ⟨h0_⟩
     replace HO_180003 : Aside0 (Kd.R Kd.string 9 w51 w.heap.size (fun k_ => some k_ ≠ (.slice Ao9 t167.length co9 : Value).ownBlock) (.slice Ao14 t175.length co14) t175) := ⟨h1_⟩
     replace BK171 : Aside0 (w51.heap[gb171]? = some (.cells #[.string t164, .string t165, .string t166, .slice Ao9 t167.length co9] 36 (0, 0))) := ⟨h2_⟩
     replace BK179 : Aside0 (w51.heap[gb179]? = some (.cells #[.string t172, .string t173, .string t174, .slice Ao14 t175.length co14] 36 (0, 0))) := ⟨h3_⟩
     have BK180 : Aside0 (w51.heap[gb180]? = some (.cells #[.string (⟨#[]⟩ : ByteArray), .string (⟨#[]⟩ : ByteArray), .string (⟨#[]⟩ : ByteArray)] 49 (0, 0))) := ⟨h4_⟩
     have BK181 : Aside0 (w51.heap[gb181]? = some (.cells #[.string (⟨#[]⟩ : ByteArray), .string (⟨#[]⟩ : ByteArray), .string (⟨#[]⟩ : ByteArray)] 49 (0, 0))) := ⟨h5_⟩
     have GW180 : Aside0 (w.heap.size ≤ gb180) := ⟨h6_⟩
     have GE180 : Aside0 (w.heap.size ≤ gb180) := ⟨h7_⟩
     have NB171_180 : Aside0 (gb171 ≠ gb180) := ⟨h8_⟩
     have NB180_171 : Aside0 (gb180 ≠ gb171) := ⟨h9_⟩
     have NB179_180 : Aside0 (gb179 ≠ gb180) := ⟨h10_⟩
     have NB180_179 : Aside0 (gb180 ≠ gb179) := ⟨h11_⟩
     have NB181_180 : Aside0 (gb181 ≠ gb180) := ⟨h12_⟩
     have NB180_181 : Aside0 (gb180 ≠ gb181) := ⟨h13_⟩
     have GW181 : Aside0 (w.heap.size ≤ gb181) := ⟨h14_⟩
     have GE181 : Aside0 (w.heap.size ≤ gb181) := ⟨h15_⟩
     have NB171_181 : Aside0 (gb171 ≠ gb181) := ⟨h16_⟩
     have NB181_171 : Aside0 (gb181 ≠ gb171) := ⟨h17_⟩
     have NB179_181 : Aside0 (gb179 ≠ gb181) := ⟨h18_⟩
     have NB181_179 : Aside0 (gb181 ≠ gb179) := ⟨h19_⟩
     replace HB : Aside0 (Below w.heap.size w w51) := ⟨h20_⟩
     clear h0_ h1_ h2_ h3_ h4_ h5_ h6_ h7_ h8_ h9_ h10_ h11_ h12_ h13_ h14_ h15_ h16_ h17_ h18_ h19_ h20_
     have hHeld := hS_
     (try dsimp only at hHeld)
     refine rN ?_
     refine oT 16 (bA 18 131071) HT_.out fun K hK => ?_
     have hs52 : w51.cell? ⟨gb180, 0, none⟩ = some (.string (⟨#[]⟩ : ByteArray)) := cT BK180 0
     have hfs52 := blk_frozen BK180.out 0
     have hns52_0 := NB171_180.out
     have hns52_1 := NB179_180.out
     have hns52_3 := NB181_180.out
     have hms52_0 := NB180_171.out
     have hms52_1 := NB180_179.out
     have hms52_3 := NB180_181.out
     have hs53 : w51.cell? ⟨gb180, 1, none⟩ = some (.string (⟨#[]⟩ : ByteArray)) := cT BK180 1
     have hfs53 := blk_frozen BK180.out 1
     have hns53_0 := NB171_180.out
     have hns53_1 := NB179_180.out
     have hns53_3 := NB181_180.out
     have hms53_0 := NB180_171.out
     have hms53_1 := NB180_179.out
     have hms53_3 := NB180_181.out
     have hs54 : w51.cell? ⟨gb180, 2, none⟩ = some (.string (⟨#[]⟩ : ByteArray)) := cT BK180 2
     have hfs54 := blk_frozen BK180.out 2
     have hns54_0 := NB171_180.out
     have hns54_1 := NB179_180.out
     have hns54_3 := NB181_180.out
     have hms54_0 := NB180_171.out
     have hms54_1 := NB180_179.out
     have hms54_3 := NB180_181.out
     refine skip_ (w1 := ?_) (by rfl) rfl ?_ ?_
     rotate_left
     ·go_simp
      rfl
     refine hK.out _ _ ⟨((cell_far (p := ⟨gb180, _, none⟩) NB171_180.out _).trans (((cell_far (p := ⟨gb180, _, none⟩) NB171_180.out _).trans (((cell_far (p := ⟨gb180, _, none⟩) NB171_180.out _).trans (hHeld.1)))))), ((cell_far (p := ⟨gb180, _, none⟩) NB171_180.out _).trans (((cell_far (p := ⟨gb180, _, none⟩) NB171_180.out _).trans (((cell_far (p := ⟨gb180, _, none⟩) NB171_180.out _).trans (hHeld.2.1)))))), ((cell_far (p := ⟨gb180, _, none⟩) NB171_180.out _).trans (((cell_far (p := ⟨gb180, _, none⟩) NB171_180.out _).trans (((cell_far (p := ⟨gb180, _, none⟩) NB171_180.out _).trans (hHeld.2.2.1)))))), ((cell_far (p := ⟨gb180, _, none⟩) NB171_180.out _).trans (((cell_far (p := ⟨gb180, _, none⟩) NB171_180.out _).trans (((cell_far (p := ⟨gb180, _, none⟩) NB171_180.out _).trans (hHeld.2.2.2.1)))))), ((cell_far (p := ⟨gb180, _, none⟩) NB179_180.out _).trans (((cell_far (p := ⟨gb180, _, none⟩) NB179_180.out _).trans (((cell_far (p := ⟨gb180, _, none⟩) NB179_180.out _).trans (hHeld.2.2.2.2.1)))))), ((cell_far (p := ⟨gb180, _, none⟩) NB179_180.out _).trans (((cell_far (p := ⟨gb180, _, none⟩) NB179_180.out _).trans (((cell_far (p := ⟨gb180, _, none⟩) NB179_180.out _).trans (hHeld.2.2.2.2.2.1)))))), ((cell_far (p := ⟨gb180, _, none⟩) NB179_180.out _).trans (((cell_far (p := ⟨gb180, _, none⟩) NB179_180.out _).trans (((cell_far (p := ⟨gb180, _, none⟩) NB179_180.out _).trans (hHeld.2.2.2.2.2.2.1)))))), ((cell_far (p := ⟨gb180, _, none⟩) NB179_180.out _).trans (((cell_far (p := ⟨gb180, _, none⟩) NB179_180.out _).trans (((cell_far (p := ⟨gb180, _, none⟩) NB179_180.out _).trans (hHeld.2.2.2.2.2.2.2))))))⟩ (fun hHeld => ?_)
     clear hK K
     refine oT 17 (bA 18 262143) HT_.out fun K hK => ?_
     have hs55 : w51.cell? ⟨gb181, 0, none⟩ = some (.string (⟨#[]⟩ : ByteArray)) := cT BK181 0
     have hfs55 := blk_frozen BK181.out 0
     have hns55_0 := NB171_181.out
     have hns55_1 := NB179_181.out
     have hns55_2 := NB180_181.out
     have hms55_0 := NB181_171.out
     have hms55_1 := NB181_179.out
     have hms55_2 := NB181_180.out
     have hs56 : w51.cell? ⟨gb181, 1, none⟩ = some (.string (⟨#[]⟩ : ByteArray)) := cT BK181 1
     have hfs56 := blk_frozen BK181.out 1
     have hns56_0 := NB171_181.out
     have hns56_1 := NB179_181.out
     have hns56_2 := NB180_181.out
     have hms56_0 := NB181_171.out
     have hms56_1 := NB181_179.out
     have hms56_2 := NB181_180.out
     have hs57 : w51.cell? ⟨gb181, 2, none⟩ = some (.string (⟨#[]⟩ : ByteArray)) := cT BK181 2
     have hfs57 := blk_frozen BK181.out 2
     have hns57_0 := NB171_181.out
     have hns57_1 := NB179_181.out
     have hns57_2 := NB180_181.out
     have hms57_0 := NB181_171.out
     have hms57_1 := NB181_179.out
     have hms57_2 := NB181_180.out
     refine skip_ (w1 := ?_) (by rfl) rfl ?_ ?_
     rotate_left
     ·go_simp
      rfl
     refine hK.out _ _ ⟨((cell_far (p := ⟨gb181, _, none⟩) NB171_181.out _).trans (((cell_far (p := ⟨gb181, _, none⟩) NB171_181.out _).trans (((cell_far (p := ⟨gb181, _, none⟩) NB171_181.out _).trans (hHeld.1)))))), ((cell_far (p := ⟨gb181, _, none⟩) NB171_181.out _).trans (((cell_far (p := ⟨gb181, _, none⟩) NB171_181.out _).trans (((cell_far (p := ⟨gb181, _, none⟩) NB171_181.out _).trans (hHeld.2.1)))))), ((cell_far (p := ⟨gb181, _, none⟩) NB171_181.out _).trans (((cell_far (p := ⟨gb181, _, none⟩) NB171_181.out _).trans (((cell_far (p := ⟨gb181, _, none⟩) NB171_181.out _).trans (hHeld.2.2.1)))))), ((cell_far (p := ⟨gb181, _, none⟩) NB171_181.out _).trans (((cell_far (p := ⟨gb181, _, none⟩) NB171_181.out _).trans (((cell_far (p := ⟨gb181, _, none⟩) NB171_181.out _).trans (hHeld.2.2.2.1)))))), ((cell_far (p := ⟨gb181, _, none⟩) NB179_181.out _).trans (((cell_far (p := ⟨gb181, _, none⟩) NB179_181.out _).trans (((cell_far (p := ⟨gb181, _, none⟩) NB179_181.out _).trans (hHeld.2.2.2.2.1)))))), ((cell_far (p := ⟨gb181, _, none⟩) NB179_181.out _).trans (((cell_far (p := ⟨gb181, _, none⟩) NB179_181.out _).trans (((cell_far (p := ⟨gb181, _, none⟩) NB179_181.out _).trans (hHeld.2.2.2.2.2.1)))))), ((cell_far (p := ⟨gb181, _, none⟩) NB179_181.out _).trans (((cell_far (p := ⟨gb181, _, none⟩) NB179_181.out _).trans (((cell_far (p := ⟨gb181, _, none⟩) NB179_181.out _).trans (hHeld.2.2.2.2.2.2.1)))))), ((cell_far (p := ⟨gb181, _, none⟩) NB179_181.out _).trans (((cell_far (p := ⟨gb181, _, none⟩) NB179_181.out _).trans (((cell_far (p := ⟨gb181, _, none⟩) NB179_181.out _).trans (hHeld.2.2.2.2.2.2.2))))))⟩ (fun hHeld => ?_)
     clear hK K
     refine done_ (done_of HT_.out (by kernel_rfl)) ?_
     have hnb58 := NB180_171.out
     have hnc58 := NB171_180.out
     have hnb59 := NB180_179.out
     have hnc59 := NB179_180.out
     have hnb60 := NB180_181.out
     have hnc60 := NB181_180.out
     have hcz61_0 : w51.cell? ⟨gb180, 0, none⟩ = some (.string (⟨#[]⟩ : ByteArray)) := cT BK180 0
     have hcz61_1 : w51.cell? ⟨gb180, 1, none⟩ = some (.string (⟨#[]⟩ : ByteArray)) := cT BK180 1
     have hcz61_2 : w51.cell? ⟨gb180, 2, none⟩ = some (.string (⟨#[]⟩ : ByteArray)) := cT BK180 2
     have hfz61_0 := blk_frozen BK180.out 0
     have hfz61_1 := blk_frozen BK180.out 1
     have hfz61_2 := blk_frozen BK180.out 2
     have hnb62 := NB181_171.out
     have hnc62 := NB171_181.out
     have hnb63 := NB181_179.out
     have hnc63 := NB179_181.out
     have hcz64_0 : w51.cell? ⟨gb181, 0, none⟩ = some (.string (⟨#[]⟩ : ByteArray)) := cT BK181 0
     have hcz64_1 : w51.cell? ⟨gb181, 1, none⟩ = some (.string (⟨#[]⟩ : ByteArray)) := cT BK181 1
     have hcz64_2 : w51.cell? ⟨gb181, 2, none⟩ = some (.string (⟨#[]⟩ : ByteArray)) := cT BK181 2
     have hfz64_0 := blk_frozen BK181.out 0
     have hfz64_1 := blk_frozen BK181.out 1
     have hfz64_2 := blk_frozen BK181.out 2
     go_upto_region 8 with (fail)
     go_cut [73] (fun v73 wc => ∃ (kq : Nat) (x73_46 : Bool), v73 = .bool x73_46 ∧ Aside0 (version_Cmp.j1 kq x73_46 t164 t165 t166 t167 t172 t173 t174 t175 = some (r1, r2)) ∧ Aside0 (kq ≤ kj4) ∧ Aside0 (Kd.R Kd.string 9 wc w.heap.size (fun k_ => some k_ ≠ ((.slice Ao14 t175.length co14) : Value).ownBlock) (.slice Ao9 t167.length co9) t167) ∧ Aside0 (Kd.R Kd.string 9 wc w.heap.size (fun k_ => some k_ ≠ ((.slice Ao9 t167.length co9) : Value).ownBlock) (.slice Ao14 t175.length co14) t175) ∧ Aside0 (wc.heap[gb171]? = some (.cells #[.string t164, .string t165, .string t166, (.slice Ao9 t167.length co9)] 36 (0, 0))) ∧ Aside0 (wc.heap[gb179]? = some (.cells #[.string t172, .string t173, .string t174, (.slice Ao14 t175.length co14)] 36 (0, 0))) ∧ Aside0 (wc.heap[gb180]? = some (.cells #[.string t164, .string t165, .string t166] 49 (0, 0))) ∧ Aside0 (wc.heap[gb181]? = some (.cells #[.string t172, .string t173, .string t174] 49 (0, 0))) ∧ Aside0 (Below w.heap.size w wc))
     case first =>
      have H := HC47.out
      clear HC47
      by_cases c65 : (t167.length : Int) = 0
      ·rw [if_pos c65] at H
       have c65b0 : ((t167.length : Int) == 0) = true := beq_iff_eq.mpr c65
       have c65b1 : ((t167.length : Int) != 0) = false := bne_eq_false_iff_eq.mpr c65
       clear c65
       (first | rw [c65b0] | (simp only [i64_w, i32_w]; rw [c65b0]) | skip)
       have H' := Aside0.mk H
       clear H
       have hnb66 := NB171_179.out
       have hnc66 := NB179_171.out
       have hnb67 := NB171_180.out
       have hnc67 := NB180_171.out
       have hnb68 := NB171_181.out
       have hnc68 := NB181_171.out
       have hcz69_0 : w51.cell? ⟨gb171, 0, none⟩ = some (.string t164) := cT BK171 0
       have hcz69_1 : w51.cell? ⟨gb171, 1, none⟩ = some (.string t165) := cT BK171 1
       have hcz69_2 : w51.cell? ⟨gb171, 2, none⟩ = some (.string t166) := cT BK171 2
       have hcz69_3 : w51.cell? ⟨gb171, 3, none⟩ = some (.slice Ao9 t167.length co9) := cT BK171 3
       have hfz69_0 := blk_frozen BK171.out 0
       have hfz69_1 := blk_frozen BK171.out 1
       have hfz69_2 := blk_frozen BK171.out 2
       have hfz69_3 := blk_frozen BK171.out 3
       go_wp2
       go_meet
       case rel => exact ⟨_, (true), (by first | rfl | (simp; done) | (simp [*]; done)), H', ⟨by have := HJ4.out; first | omega | exact Nat.le_refl _⟩, ⟨by (with_reducible repeat (first | apply Kd.R_alloc | apply Kd.R_drewN | apply Kd.R_drew)); exact Kd.R_mono (Kd.R_far (p := ⟨gb181, 2, none⟩) (Kd.R_far (p := ⟨gb181, 1, none⟩) (Kd.R_far (p := ⟨gb181, 0, none⟩) (Kd.R_far (p := ⟨gb180, 2, none⟩) (Kd.R_far (p := ⟨gb180, 1, none⟩) (Kd.R_far (p := ⟨gb180, 0, none⟩) (Kd.R_types (Kd.R_types HO_172003.out BK180.out (by decide)) BK181.out (by decide)) (fun _ hk => hk.1.2) (.string t164)) (fun _ hk => hk.1.2) (.string t165)) (fun _ hk => hk.1.2) (.string t166)) (fun _ hk => hk.2) (.string t172)) (fun _ hk => hk.2) (.string t173)) (fun _ hk => hk.2) (.string t174)) (fun _ hk => hk.1.1)⟩, ⟨by (with_reducible repeat (first | apply Kd.R_alloc | apply Kd.R_drewN | apply Kd.R_drew)); exact Kd.R_mono (Kd.R_far (p := ⟨gb181, 2, none⟩) (Kd.R_far (p := ⟨gb181, 1, none⟩) (Kd.R_far (p := ⟨gb181, 0, none⟩) (Kd.R_far (p := ⟨gb180, 2, none⟩) (Kd.R_far (p := ⟨gb180, 1, none⟩) (Kd.R_far (p := ⟨gb180, 0, none⟩) (Kd.R_types (Kd.R_types HO_180003.out BK180.out (by decide)) BK181.out (by decide)) (fun _ hk => hk.1.2) (.string t164)) (fun _ hk => hk.1.2) (.string t165)) (fun _ hk => hk.1.2) (.string t166)) (fun _ hk => hk.2) (.string t172)) (fun _ hk => hk.2) (.string t173)) (fun _ hk => hk.2) (.string t174)) (fun _ hk => hk.1.1)⟩, ⟨by (with_reducible repeat (first | apply bn | apply bd | apply ba)); refine blk_far ?_ NB171_181.out _; (with_reducible repeat (first | apply bn | apply bd | apply ba)); refine blk_far ?_ NB171_181.out _; (with_reducible repeat (first | apply bn | apply bd | apply ba)); refine blk_far ?_ NB171_181.out _; (with_reducible repeat (first | apply bn | apply bd | apply ba)); refine blk_far ?_ NB171_180.out _; (with_reducible repeat (first | apply bn | apply bd | apply ba)); refine blk_far ?_ NB171_180.out _; (with_reducible repeat (first | apply bn | apply bd | apply ba)); refine blk_far ?_ NB171_180.out _; exact bT BK171.out⟩, ⟨by (with_reducible repeat (first | apply bn | apply bd | apply ba)); refine blk_far ?_ NB179_181.out _; (with_reducible repeat (first | apply bn | apply bd | apply ba)); refine blk_far ?_ NB179_181.out _; (with_reducible repeat (first | apply bn | apply bd | apply ba)); refine blk_far ?_ NB179_181.out _; (with_reducible repeat (first | apply bn | apply bd | apply ba)); refine blk_far ?_ NB179_180.out _; (with_reducible repeat (first | apply bn | apply bd | apply ba)); refine blk_far ?_ NB179_180.out _; (with_reducible repeat (first | apply bn | apply bd | apply ba)); refine blk_far ?_ NB179_180.out _; exact bT BK179.out⟩, ⟨by (with_reducible repeat (first | apply bn | apply bd | apply ba)); refine blk_far ?_ NB180_181.out _; (with_reducible repeat (first | apply bn | apply bd | apply ba)); refine blk_far ?_ NB180_181.out _; (with_reducible repeat (first | apply bn | apply bd | apply ba)); refine blk_far ?_ NB180_181.out _; (with_reducible repeat (first | apply bn | apply bd | apply ba)); refine blk_put (cs := #[.string t164, .string t165, .string (⟨#[]⟩ : ByteArray)]) ?_ 2 _ rfl; (with_reducible repeat (first | apply bn | apply bd | apply ba)); refine blk_put (cs := #[.string t164, .string (⟨#[]⟩ : ByteArray), .string (⟨#[]⟩ : ByteArray)]) ?_ 1 _ rfl; (with_reducible repeat (first | apply bn | apply bd | apply ba)); refine blk_put (cs := #[.string (⟨#[]⟩ : ByteArray), .string (⟨#[]⟩ : ByteArray), .string (⟨#[]⟩ : ByteArray)]) ?_ 0 _ rfl; exact bT BK180.out⟩, ⟨by (with_reducible repeat (first | apply bn | apply bd | apply ba)); refine blk_put (cs := #[.string t172, .string t173, .string (⟨#[]⟩ : ByteArray)]) ?_ 2 _ rfl; (with_reducible repeat (first | apply bn | apply bd | apply ba)); refine blk_put (cs := #[.string t172, .string (⟨#[]⟩ : ByteArray), .string (⟨#[]⟩ : ByteArray)]) ?_ 1 _ rfl; (with_reducible repeat (first | apply bn | apply bd | apply ba)); refine blk_put (cs := #[.string (⟨#[]⟩ : ByteArray), .string (⟨#[]⟩ : ByteArray), .string (⟨#[]⟩ : ByteArray)]) ?_ 0 _ rfl; (with_reducible repeat (first | apply bn | apply bd | apply ba)); refine blk_far ?_ NB181_180.out _; (with_reducible repeat (first | apply bn | apply bd | apply ba)); refine blk_far ?_ NB181_180.out _; (with_reducible repeat (first | apply bn | apply bd | apply ba)); refine blk_far ?_ NB181_180.out _; exact bT BK181.out⟩, ⟨by repeat (first | (with_reducible first | exact HB.out | apply pA | apply pN | apply pD | refine eU ?_ (by assumption)) | exact HB.out)⟩⟩
      ·rw [if_neg c65] at H
       have c65b0 : ((t167.length : Int) == 0) = false := beq_eq_false_iff_ne.mpr c65
       have c65b1 : ((t167.length : Int) != 0) = true := bne_iff_ne.mpr c65
       have c65b2 : ¬ (t167 = []) := fun h_ => c65 (by rw [h_]; rfl)
       (first | rw [c65b0] | (simp only [i64_w, i32_w]; rw [c65b0]) | skip)
       have H' := Aside0.mk H
       clear H
       have hnb70 := NB171_179.out
       have hnc70 := NB179_171.out
       have hnb71 := NB171_180.out
       have hnc71 := NB180_171.out
       have hnb72 := NB171_181.out
       have hnc72 := NB181_171.out
       have hcz73_0 : w51.cell? ⟨gb171, 0, none⟩ = some (.string t164) := cT BK171 0
       have hcz73_1 : w51.cell? ⟨gb171, 1, none⟩ = some (.string t165) := cT BK171 1
       have hcz73_2 : w51.cell? ⟨gb171, 2, none⟩ = some (.string t166) := cT BK171 2
       have hcz73_3 : w51.cell? ⟨gb171, 3, none⟩ = some (.slice Ao9 t167.length co9) := cT BK171 3
       have hfz73_0 := blk_frozen BK171.out 0
       have hfz73_1 := blk_frozen BK171.out 1
       have hfz73_2 := blk_frozen BK171.out 2
       have hfz73_3 := blk_frozen BK171.out 3
       have hnb74 := NB179_180.out
       have hnc74 := NB180_179.out
       have hnb75 := NB179_181.out
       have hnc75 := NB181_179.out
       have hcz76_0 : w51.cell? ⟨gb179, 0, none⟩ = some (.string t172) := cT BK179 0
       have hcz76_1 : w51.cell? ⟨gb179, 1, none⟩ = some (.string t173) := cT BK179 1
       have hcz76_2 : w51.cell? ⟨gb179, 2, none⟩ = some (.string t174) := cT BK179 2
       have hcz76_3 : w51.cell? ⟨gb179, 3, none⟩ = some (.slice Ao14 t175.length co14) := cT BK179 3
       have hfz76_0 := blk_frozen BK179.out 0
       have hfz76_1 := blk_frozen BK179.out 1
       have hfz76_2 := blk_frozen BK179.out 2
       have hfz76_3 := blk_frozen BK179.out 3
       go_wp2
       go_meet
       case rel => exact ⟨_, (((t175.length : Int) == 0)), (by first | rfl | (simp; done) | (simp [*]; done)), H', ⟨by have := HJ4.out; first | omega | exact Nat.le_refl _⟩, ⟨by (with_reducible repeat (first | apply Kd.R_alloc | apply Kd.R_drewN | apply Kd.R_drew)); exact Kd.R_mono (Kd.R_far (p := ⟨gb181, 2, none⟩) (Kd.R_far (p := ⟨gb181, 1, none⟩) (Kd.R_far (p := ⟨gb181, 0, none⟩) (Kd.R_far (p := ⟨gb180, 2, none⟩) (Kd.R_far (p := ⟨gb180, 1, none⟩) (Kd.R_far (p := ⟨gb180, 0, none⟩) (Kd.R_types (Kd.R_types HO_172003.out BK180.out (by decide)) BK181.out (by decide)) (fun _ hk => hk.1.2) (.string t164)) (fun _ hk => hk.1.2) (.string t165)) (fun _ hk => hk.1.2) (.string t166)) (fun _ hk => hk.2) (.string t172)) (fun _ hk => hk.2) (.string t173)) (fun _ hk => hk.2) (.string t174)) (fun _ hk => hk.1.1)⟩, ⟨by (with_reducible repeat (first | apply Kd.R_alloc | apply Kd.R_drewN | apply Kd.R_drew)); exact Kd.R_mono (Kd.R_far (p := ⟨gb181, 2, none⟩) (Kd.R_far (p := ⟨gb181, 1, none⟩) (Kd.R_far (p := ⟨gb181, 0, none⟩) (Kd.R_far (p := ⟨gb180, 2, none⟩) (Kd.R_far (p := ⟨gb180, 1, none⟩) (Kd.R_far (p := ⟨gb180, 0, none⟩) (Kd.R_types (Kd.R_types HO_180003.out BK180.out (by decide)) BK181.out (by decide)) (fun _ hk => hk.1.2) (.string t164)) (fun _ hk => hk.1.2) (.string t165)) (fun _ hk => hk.1.2) (.string t166)) (fun _ hk => hk.2) (.string t172)) (fun _ hk => hk.2) (.string t173)) (fun _ hk => hk.2) (.string t174)) (fun _ hk => hk.1.1)⟩, ⟨by (with_reducible repeat (first | apply bn | apply bd | apply ba)); refine blk_far ?_ NB171_181.out _; (with_reducible repeat (first | apply bn | apply bd | apply ba)); refine blk_far ?_ NB171_181.out _; (with_reducible repeat (first | apply bn | apply bd | apply ba)); refine blk_far ?_ NB171_181.out _; (with_reducible repeat (first | apply bn | apply bd | apply ba)); refine blk_far ?_ NB171_180.out _; (with_reducible repeat (first | apply bn | apply bd | apply ba)); refine blk_far ?_ NB171_180.out _; (with_reducible repeat (first | apply bn | apply bd | apply ba)); refine blk_far ?_ NB171_180.out _; exact bT BK171.out⟩, ⟨by (with_reducible repeat (first | apply bn | apply bd | apply ba)); refine blk_far ?_ NB179_181.out _; (with_reducible repeat (first | apply bn | apply bd | apply ba)); refine blk_far ?_ NB179_181.out _; (with_reducible repeat (first | apply bn | apply bd | apply ba)); refine blk_far ?_ NB179_181.out _; (with_reducible repeat (first | apply bn | apply bd | apply ba)); refine blk_far ?_ NB179_180.out _; (with_reducible repeat (first | apply bn | apply bd | apply ba)); refine blk_far ?_ NB179_180.out _; (with_reducible repeat (first | apply bn | apply bd | apply ba)); refine blk_far ?_ NB179_180.out _; exact bT BK179.out⟩, ⟨by (with_reducible repeat (first | apply bn | apply bd | apply ba)); refine blk_far ?_ NB180_181.out _; (with_reducible repeat (first | apply bn | apply bd | apply ba)); refine blk_far ?_ NB180_181.out _; (with_reducible repeat (first | apply bn | apply bd | apply ba)); refine blk_far ?_ NB180_181.out _; (with_reducible repeat (first | apply bn | apply bd | apply ba)); refine blk_put (cs := #[.string t164, .string t165, .string (⟨#[]⟩ : ByteArray)]) ?_ 2 _ rfl; (with_reducible repeat (first | apply bn | apply bd | apply ba)); refine blk_put (cs := #[.string t164, .string (⟨#[]⟩ : ByteArray), .string (⟨#[]⟩ : ByteArray)]) ?_ 1 _ rfl; (with_reducible repeat (first | apply bn | apply bd | apply ba)); refine blk_put (cs := #[.string (⟨#[]⟩ : ByteArray), .string (⟨#[]⟩ : ByteArray), .string (⟨#[]⟩ : ByteArray)]) ?_ 0 _ rfl; exact bT BK180.out⟩, ⟨by (with_reducible repeat (first | apply bn | apply bd | apply ba)); refine blk_put (cs := #[.string t172, .string t173, .string (⟨#[]⟩ : ByteArray)]) ?_ 2 _ rfl; (with_reducible repeat (first | apply bn | apply bd | apply ba)); refine blk_put (cs := #[.string t172, .string (⟨#[]⟩ : ByteArray), .string (⟨#[]⟩ : ByteArray)]) ?_ 1 _ rfl; (with_reducible repeat (first | apply bn | apply bd | apply ba)); refine blk_put (cs := #[.string (⟨#[]⟩ : ByteArray), .string (⟨#[]⟩ : ByteArray), .string (⟨#[]⟩ : ByteArray)]) ?_ 0 _ rfl; (with_reducible repeat (first | apply bn | apply bd | apply ba)); refine blk_far ?_ NB181_180.out _; (with_reducible repeat (first | apply bn | apply bd | apply ba)); refine blk_far ?_ NB181_180.out _; (with_reducible repeat (first | apply bn | apply bd | apply ba)); refine blk_far ?_ NB181_180.out _; exact bT BK181.out⟩, ⟨by repeat (first | (with_reducible first | exact HB.out | apply pA | apply pN | apply pD | refine eU ?_ (by assumption)) | exact HB.out)⟩⟩
     case rest =>
      clear HC47
      try clear c1
      try clear c2
      try clear p2
      try clear c5
      try clear c6
      try clear c7
      try clear c17
      try clear c17b0
      try clear c23
      try clear c58
      try clear c59
      try clear c60
      try clear c62
      try clear c63
      try clear c65
      try clear c65b0
      try clear c65b1
      try clear c65b2
      try clear c66
      try clear c67
      try clear c68
      try clear c70
      try clear c71
      try clear c72
      try clear c74
      try clear c75
      try clear hcz61_0
      try clear hcz61_1
      try clear hcz61_2
      try clear hcz64_0
      try clear hcz64_1
      try clear hcz64_2
      try clear hcz69_0
      try clear hcz69_1
      try clear hcz69_2
      try clear hcz69_3
      try clear hcz73_0
      try clear hcz73_1
      try clear hcz73_2
      try clear hcz73_3
      try clear hcz76_0
      try clear hcz76_1
      try clear hcz76_2
      try clear hcz76_3
      try clear hfz61_0
      try clear hfz61_1
      try clear hfz61_2
      try clear hfz64_0
      try clear hfz64_1
      try clear hfz64_2
      try clear hfz69_0
      try clear hfz69_1
      try clear hfz69_2
      try clear hfz69_3
      try clear hfz73_0
      try clear hfz73_1
      try clear hfz73_2
      try clear hfz73_3
      try clear hfz76_0
      try clear hfz76_1
      try clear hfz76_2
      try clear hfz76_3
      obtain ⟨kq, x73_46, rfl, HA, HJ46, HO_172003, HO_180003, BK171, BK179, BK180, BK181, HB⟩ := hcut
      cases kq with
      | zero => exact absurd HA.out (by simp [version_Cmp.j1])
      | succ kj46 =>
       have H := HA.out
       clear HA
       simp only [version_Cmp.j1] at H
       by_cases c77 : x73_46 = true
       ·subst c77
        have H1 : ((cmp_Compare_int.f (t175.length : Int) (t167.length : Int)).bind fun t189 => (some (t189, 0))) = some (r1, r2) := by rw [if_pos rfl] at H; exact H
        clear H
        have H := H1
        clear H1
        replace H := Option.bind_eq_some_iff.mp H
        obtain ⟨t189, A780, H⟩ := H
        replace H : (some (t189, 0)) = some (r1, r2) := H
        have A78 := Aside0.mk A780
        clear A780
        simp only [Option.some.injEq, Prod.mk.injEq] at H
        obtain ⟨rfl, rfl⟩ := H
        have hnb79 := NB179_171.out
        have hnc79 := NB171_179.out
        have hnb80 := NB179_180.out
        have hnc80 := NB180_179.out
        have hnb81 := NB179_181.out
        have hnc81 := NB181_179.out
        have hcz82_0 : wc.cell? ⟨gb179, 0, none⟩ = some (.string t172) := cT BK179 0
        have hcz82_1 : wc.cell? ⟨gb179, 1, none⟩ = some (.string t173) := cT BK179 1
        have hcz82_2 : wc.cell? ⟨gb179, 2, none⟩ = some (.string t174) := cT BK179 2
        have hcz82_3 : wc.cell? ⟨gb179, 3, none⟩ = some (.slice Ao14 t175.length co14) := cT BK179 3
        have hfz82_0 := blk_frozen BK179.out 0
        have hfz82_1 := blk_frozen BK179.out 1
        have hfz82_2 := blk_frozen BK179.out 2
        have hfz82_3 := blk_frozen BK179.out 3
        have hnb83 := NB171_180.out
        have hnc83 := NB180_171.out
        have hnb84 := NB171_181.out
        have hnc84 := NB181_171.out
        have hcz85_0 : wc.cell? ⟨gb171, 0, none⟩ = some (.string t164) := cT BK171 0
        have hcz85_1 : wc.cell? ⟨gb171, 1, none⟩ = some (.string t165) := cT BK171 1
        have hcz85_2 : wc.cell? ⟨gb171, 2, none⟩ = some (.string t166) := cT BK171 2
        have hcz85_3 : wc.cell? ⟨gb171, 3, none⟩ = some (.slice Ao9 t167.length co9) := cT BK171 3
        have hfz85_0 := blk_frozen BK171.out 0
        have hfz85_1 := blk_frozen BK171.out 1
        have hfz85_2 := blk_frozen BK171.out 2
        have hfz85_3 := blk_frozen BK171.out 3
        go_wp2_with (first | ((with_reducible refine gate_callee (f := 25) rfl ?_); refine gL (some 80) Tryd.func25 #[.int .i64 (t175.length : Int), .int .i64 (t167.length : Int)] ?_; (with_reducible refine (cmp_Compare_int.calls (t175.length : Int) (t167.length : Int) t189 _ A78.out).mono ?_); rintro e w' ⟨rfl, ⟨nd, rfl⟩⟩; refine ⟨_, rfl, ?_⟩))
        go_ret2
        exact ⟨by first | rfl | (simp [errW_none, errW_some] <;> rfl) | (simp [*, errW_none, errW_some] <;> rfl), eT HB.out⟩
       ·replace c77 := Bool.eq_false_iff.mpr c77
        subst c77
        have H1 : (version_Cmp.l0 kj46 (mn (t167.length : Int) (t175.length : Int)) 0 t164 t165 t166 t167 t172 t173 t174 t175) = some (r1, r2) := by rw [if_neg (show ¬ (false = true) by decide)] at H; exact H
        clear H
        have H := H1
        clear H1
        obtain ⟨ji86, hji86⟩ : ∃ j_ : Int, (mn (t167.length : Int) (t175.length : Int)) = j_ := ⟨_, rfl⟩
        replace H : (version_Cmp.l0 kj46 ji86 0 t164 t165 t166 t167 t172 t173 t174 t175) = some (r1, r2) := by first | (rw [hji86] at H; exact H) | (simp only [hji86] at H ⊢; exact H)
        have hji86_ : (if (t175.length : Int) < (t167.length : Int) then (t175.length : Int) else (t167.length : Int)) = ji86 := hji86
        (try (have hji86n := hji86_; simp only [Int.ofNat_lt] at hji86n))
        have H' := Aside0.mk H
        clear H
        have hnb87 := NB171_179.out
        have hnc87 := NB179_171.out
        have hnb88 := NB171_180.out
        have hnc88 := NB180_171.out
        have hnb89 := NB171_181.out
        have hnc89 := NB181_171.out
        have hcz90_0 : wc.cell? ⟨gb171, 0, none⟩ = some (.string t164) := cT BK171 0
        have hcz90_1 : wc.cell? ⟨gb171, 1, none⟩ = some (.string t165) := cT BK171 1
        have hcz90_2 : wc.cell? ⟨gb171, 2, none⟩ = some (.string t166) := cT BK171 2
        have hcz90_3 : wc.cell? ⟨gb171, 3, none⟩ = some (.slice Ao9 t167.length co9) := cT BK171 3
        have hfz90_0 := blk_frozen BK171.out 0
        have hfz90_1 := blk_frozen BK171.out 1
        have hfz90_2 := blk_frozen BK171.out 2
        have hfz90_3 := blk_frozen BK171.out 3
        have hnb91 := NB179_180.out
        have hnc91 := NB180_179.out
        have hnb92 := NB179_181.out
        have hnc92 := NB181_179.out
        have hcz93_0 : wc.cell? ⟨gb179, 0, none⟩ = some (.string t172) := cT BK179 0
        have hcz93_1 : wc.cell? ⟨gb179, 1, none⟩ = some (.string t173) := cT BK179 1
        have hcz93_2 : wc.cell? ⟨gb179, 2, none⟩ = some (.string t174) := cT BK179 2
        have hcz93_3 : wc.cell? ⟨gb179, 3, none⟩ = some (.slice Ao14 t175.length co14) := cT BK179 3
        have hfz93_0 := blk_frozen BK179.out 0
        have hfz93_1 := blk_frozen BK179.out 1
        have hfz93_2 := blk_frozen BK179.out 2
        have hfz93_3 := blk_frozen BK179.out 3
        go_wp2
        go_loopg [88] kj46 (fun kq v88 w' => ∃ (x88_3 : Int), v88 = .int .i64 x88_3 ∧ Aside0 (version_Cmp.l0 kq ji86 x88_3 t164 t165 t166 t167 t172 t173 t174 t175 = some (r1, r2)) ∧ Aside0 (kq ≤ kj46) ∧ Aside0 (Kd.R Kd.string 9 w' w.heap.size (fun k_ => some k_ ≠ ((.slice Ao14 t175.length co14) : Value).ownBlock) (.slice Ao9 t167.length co9) t167) ∧ Aside0 (Kd.R Kd.string 9 w' w.heap.size (fun k_ => some k_ ≠ ((.slice Ao9 t167.length co9) : Value).ownBlock) (.slice Ao14 t175.length co14) t175) ∧ Aside0 (w'.heap[gb171]? = some (.cells #[.string t164, .string t165, .string t166, (.slice Ao9 t167.length co9)] 36 (0, 0))) ∧ Aside0 (w'.heap[gb179]? = some (.cells #[.string t172, .string t173, .string t174, (.slice Ao14 t175.length co14)] 36 (0, 0))) ∧ Aside0 (w'.heap[gb180]? = some (.cells #[.string t164, .string t165, .string t166] 49 (0, 0))) ∧ Aside0 (w'.heap[gb181]? = some (.cells #[.string t172, .string t173, .string t174] 49 (0, 0))) ∧ Aside0 (Below w.heap.size w w'))
        case atStart => exact ⟨(0), (by first | rfl | (simp; done) | (simp [*]; done)), H', ⟨Nat.le_refl _⟩, ⟨rT HO_172003.out⟩, ⟨rT HO_180003.out⟩, ⟨bT BK171.out⟩, ⟨bT BK179.out⟩, ⟨bT BK180.out⟩, ⟨bT BK181.out⟩, ⟨eT HB.out⟩⟩
        case round =>
         clear H'
         try clear c1
         try clear c2
         try clear p2
         try clear c5
         try clear c6
         try clear c7
         try clear c8
         try clear c9
         try clear c17
         try clear c17b0
         try clear c23
         try clear c25
         try clear c58
         try clear c59
         try clear c60
         try clear c62
         try clear c63
         try clear c65
         try clear c65b0
         try clear c65b1
         try clear c65b2
         try clear c66
         try clear c67
         try clear c68
         try clear c70
         try clear c71
         try clear c72
         try clear c74
         try clear c75
         try clear c77
         try clear c79
         try clear c80
         try clear c81
         try clear c83
         try clear c84
         try clear c87
         try clear c88
         try clear c89
         try clear c91
         try clear c92
         try clear hcz61_0
         try clear hcz61_1
         try clear hcz61_2
         try clear hcz64_0
         try clear hcz64_1
         try clear hcz64_2
         try clear hcz69_0
         try clear hcz69_1
         try clear hcz69_2
         try clear hcz69_3
         try clear hcz73_0
         try clear hcz73_1
         try clear hcz73_2
         try clear hcz73_3
         try clear hcz76_0
         try clear hcz76_1
         try clear hcz76_2
         try clear hcz76_3
         try clear hcz82_0
         try clear hcz82_1
         try clear hcz82_2
         try clear hcz82_3
         try clear hcz85_0
         try clear hcz85_1
         try clear hcz85_2
         try clear hcz85_3
         try clear hcz90_0
         try clear hcz90_1
         try clear hcz90_2
         try clear hcz90_3
         try clear hcz93_0
         try clear hcz93_1
         try clear hcz93_2
         try clear hcz93_3
         try clear hfz61_0
         try clear hfz61_1
         try clear hfz61_2
         try clear hfz64_0
         try clear hfz64_1
         try clear hfz64_2
         try clear hfz69_0
         try clear hfz69_1
         try clear hfz69_2
         try clear hfz69_3
         try clear hfz73_0
         try clear hfz73_1
         try clear hfz73_2
         try clear hfz73_3
         try clear hfz76_0
         try clear hfz76_1
         try clear hfz76_2
         try clear hfz76_3
         try clear hfz82_0
         try clear hfz82_1
         try clear hfz82_2
         try clear hfz82_3
         try clear hfz85_0
         try clear hfz85_1
         try clear hfz85_2
         try clear hfz85_3
         try clear hfz90_0
         try clear hfz90_1
         try clear hfz90_2
         try clear hfz90_3
         try clear hfz93_0
         try clear hfz93_1
         try clear hfz93_2
         try clear hfz93_3
         try clear p2
         obtain ⟨x88_3, rfl, HA, HK3, HO_172003, HO_180003, BK171, BK179, BK180, BK181, HB⟩ := hrel
         cases gk with
         | zero => exact absurd HA.out (by simp [version_Cmp.l0])
         | succ k3 =>
          have H := HA.out
          clear HA
          simp only [version_Cmp.l0] at H
          by_cases c94 : x88_3 < ji86
          ·rw [if_pos c94] at H
           have c94b0 : decide (x88_3 < ji86) = true := decide_eq_true c94
           clear c94
           by_cases c95 : 0 ≤ x88_3
           ·rw [if_pos c95] at H
            have c95b0 : decide (0 ≤ x88_3) = true := decide_eq_true c95
            clear c95
            by_cases c96 : x88_3 < (t167.length : Int)
            ·rw [if_pos c96] at H
             have c96b0 : decide (x88_3 < (t167.length : Int)) = true := decide_eq_true c96
             clear c96
             by_cases c97 : x88_3 < (t175.length : Int)
             ·rw [if_pos c97] at H
              have c97b0 : decide (x88_3 < (t175.length : Int)) = true := decide_eq_true c97
              clear c97
              replace H := Option.bind_eq_some_iff.mp H
              obtain ⟨t192, A980, H⟩ := H
              replace H : (if t192 = 0 then (version_Cmp.l0 k3 ji86 (wrap64 (x88_3 + 1)) t164 t165 t166 t167 t172 t173 t174 t175) else (some (t192, 0))) = some (r1, r2) := H
              have A98 := Aside0.mk A980
              clear A980
              by_cases c99 : t192 = 0
              ·rw [if_pos c99] at H
               have c99b0 : (t192 == 0) = true := beq_iff_eq.mpr c99
               have c99b1 : (t192 != 0) = false := bne_eq_false_iff_eq.mpr c99
               clear c99
               have H' := Aside0.mk H
               clear H
               try go_wp2
               replace HO_172003 := am (Kd.R_drew HO_172003.out)
               replace HO_180003 := am (Kd.R_drew HO_180003.out)
               replace BK171 := am (blk_drew BK171.out)
               replace BK179 := am (blk_drew BK179.out)
               replace BK180 := am (blk_drew BK180.out)
               replace BK181 := am (blk_drew BK181.out)
               replace HB := am (below_drew1 HB.out)
               have p190 : 0 ≤ (x88_3 : Int) := of_decide_eq_true (by first | (with_reducible assumption) | assumption)
               have q190 : x88_3 < (t167.length : Int) := of_decide_eq_true (by first | (with_reducible assumption) | assumption)
               obtain ⟨ad190, e190, hx190_0⟩ := Kd.at_string (Kd.R_reads' HO_172003.out).2.2 x88_3 p190 q190
               cases e190
               replace p190 := eq_true p190
               replace q190 := eq_true q190
               have p191 : 0 ≤ (x88_3 : Int) := of_decide_eq_true (by first | (with_reducible assumption) | assumption)
               have q191 : x88_3 < (t175.length : Int) := of_decide_eq_true (by first | (with_reducible assumption) | assumption)
               obtain ⟨ad191, e191, hx191_0⟩ := Kd.at_string (Kd.R_reads' HO_180003.out).2.2 x88_3 p191 q191
               cases e191
               replace p191 := eq_true p191
               replace q191 := eq_true q191
               refine start_ (n := 12) (S := fun w' => w'.cell? ⟨gb171, 0, none⟩ = some (.string t164) ∧ w'.cell? ⟨gb171, 1, none⟩ = some (.string t165) ∧ w'.cell? ⟨gb171, 2, none⟩ = some (.string t166) ∧ w'.cell? ⟨gb171, 3, none⟩ = some (.slice (some ad190) t167.length co9) ∧ w'.cell? ⟨gb179, 0, none⟩ = some (.string t172) ∧ w'.cell? ⟨gb179, 1, none⟩ = some (.string t173) ∧ w'.cell? ⟨gb179, 2, none⟩ = some (.string t174) ∧ w'.cell? ⟨gb179, 3, none⟩ = some (.slice (some ad191) t175.length co14) ∧ w'.cell? (ad190.add (x88_3).toNat) = some (.string (rdOf ByteArray.empty t167 x88_3)) ∧ w'.cell? (ad191.add (x88_3).toNat) = some (.string (rdOf ByteArray.empty t175 x88_3))) (ds := []) (bA 12 0) (by kernel_rfl) rfl (by kernel_rfl) ⟨cT BK171 0, cT BK171 1, cT BK171 2, cT BK171 3, cT BK179 0, cT BK179 1, cT BK179 2, cT BK179 3, hx190_0, hx191_0⟩ (fun hHeld => ?_); refine with_tabW version_Cmp.tab13 version_Cmp.bits13 (fun HT_ HW_ => ?_)
               generalize wr.drew = w100 at HO_172003 HO_180003 BK171 BK179 BK180 BK181 HB hx190_0 hx191_0 hHeld ⊢
               refine pT 0 91 (bA 12 1) HT_.out ?_
               refine pT 2 93 (bA 12 5) HT_.out ?_
               refine pT 5 96 (bA 12 37) HT_.out ?_
               refine pT 7 98 (bA 12 165) HT_.out ?_
               refine tT 1 92 (bA 12 167) HT_.out HW_.out hHeld ?_ (hy := by rintro w' ⟨s0, s1, s2, s3, s4, s5, s6, s7, s8, s9⟩; go_simp; with_reducible rfl)
               refine pT 3 94 (bA 12 175) HT_.out ?_
               refine tT 4 95 (bA 12 191) HT_.out HW_.out hHeld ?_ (hy := by rintro w' ⟨s0, s1, s2, s3, s4, s5, s6, s7, s8, s9⟩; go_simp; with_reducible rfl)
               refine tT 6 97 (bA 12 255) HT_.out HW_.out hHeld ?_ (hy := by rintro w' ⟨s0, s1, s2, s3, s4, s5, s6, s7, s8, s9⟩; go_simp; with_reducible rfl)
               refine pT 8 99 (bA 12 511) HT_.out ?_
               refine tT 9 100 (bA 12 1023) HT_.out HW_.out hHeld ?_ (hy := by rintro w' ⟨s0, s1, s2, s3, s4, s5, s6, s7, s8, s9⟩; go_simp; with_reducible rfl)
               refine oT 10 (bA 12 2047) HT_.out fun K hK => ?_
               refine gS Tryd.func26 #[.string (rdOf ByteArray.empty t167 x88_3), .string (rdOf ByteArray.empty t175 x88_3)] ?_
               with_reducible refine (version_words.calls k3 (rdOf ByteArray.empty t167 x88_3) (rdOf ByteArray.empty t175 x88_3) t192 _ A98.out).mono ?_
               rintro e w101 ⟨rfl, hb⟩
               have HS8_ := (hb.cell (World.block_lt_of_cell? _ _ (hHeld.2.2.2.2.2.2.2.2.1))).trans (hHeld.2.2.2.2.2.2.2.2.1)
               have HS9_ := (hb.cell (World.block_lt_of_cell? _ _ (hHeld.2.2.2.2.2.2.2.2.2))).trans (hHeld.2.2.2.2.2.2.2.2.2)
               refine ⟨_, rfl, ?_⟩
               replace HO_172003 := am (rB HO_172003.out hb)
               replace HO_180003 := am (rB HO_180003.out hb)
               replace BK171 := am (bB BK171.out hb)
               replace BK179 := am (bB BK179.out hb)
               replace BK180 := am (bB BK180.out hb)
               replace BK181 := am (bB BK181.out hb)
               replace HB := am (sT HB.out hb)
               (try clear hb)
               (try clear hb2)
               (try clear hk)
               (try clear hi)
               refine hK.out _ _ ⟨cT BK171 0, cT BK171 1, cT BK171 2, cT BK171 3, cT BK179 0, cT BK179 1, cT BK179 2, cT BK179 3, HS8_, HS9_⟩ (fun hHeld => ?_)
               clear hK K
               refine mN 101 ?_
               refine pT 11 13 (bA 12 4095) HT_.out ?_
               refine done_ (done_of HT_.out (by kernel_rfl)) ?_
               try go_wp2
               go_roundg k3
               case measure => have := HJ4.out; have := HJ46.out; have := HK3.out; omega
               case rel => exact ⟨(wrap64 (x88_3 + 1)), (by first | rfl | (simp; done) | (simp [*]; done)), H', ⟨by have := HJ4.out; have := HJ46.out; have := HK3.out; omega⟩, ⟨rT HO_172003.out⟩, ⟨rT HO_180003.out⟩, ⟨bT BK171.out⟩, ⟨bT BK179.out⟩, ⟨bT BK180.out⟩, ⟨bT BK181.out⟩, ⟨eT HB.out⟩⟩
              ·rw [if_neg c99] at H
               have c99b0 : (t192 == 0) = false := beq_eq_false_iff_ne.mpr c99
               have c99b1 : (t192 != 0) = true := bne_iff_ne.mpr c99
               simp only [Option.some.injEq, Prod.mk.injEq] at H
               obtain ⟨rfl, rfl⟩ := H
               try go_wp2
               replace HO_172003 := am (Kd.R_drew HO_172003.out)
               replace HO_180003 := am (Kd.R_drew HO_180003.out)
               replace BK171 := am (blk_drew BK171.out)
               replace BK179 := am (blk_drew BK179.out)
               replace BK180 := am (blk_drew BK180.out)
               replace BK181 := am (blk_drew BK181.out)
               replace HB := am (below_drew1 HB.out)
               have p190 : 0 ≤ (x88_3 : Int) := of_decide_eq_true (by first | (with_reducible assumption) | assumption)
               have q190 : x88_3 < (t167.length : Int) := of_decide_eq_true (by first | (with_reducible assumption) | assumption)
               obtain ⟨ad190, e190, hx190_0⟩ := Kd.at_string (Kd.R_reads' HO_172003.out).2.2 x88_3 p190 q190
               cases e190
               replace p190 := eq_true p190
               replace q190 := eq_true q190
               have p191 : 0 ≤ (x88_3 : Int) := of_decide_eq_true (by first | (with_reducible assumption) | assumption)
               have q191 : x88_3 < (t175.length : Int) := of_decide_eq_true (by first | (with_reducible assumption) | assumption)
               obtain ⟨ad191, e191, hx191_0⟩ := Kd.at_string (Kd.R_reads' HO_180003.out).2.2 x88_3 p191 q191
               cases e191
               replace p191 := eq_true p191
               replace q191 := eq_true q191
               refine start_ (n := 12) (S := fun w' => w'.cell? ⟨gb171, 0, none⟩ = some (.string t164) ∧ w'.cell? ⟨gb171, 1, none⟩ = some (.string t165) ∧ w'.cell? ⟨gb171, 2, none⟩ = some (.string t166) ∧ w'.cell? ⟨gb171, 3, none⟩ = some (.slice (some ad190) t167.length co9) ∧ w'.cell? ⟨gb179, 0, none⟩ = some (.string t172) ∧ w'.cell? ⟨gb179, 1, none⟩ = some (.string t173) ∧ w'.cell? ⟨gb179, 2, none⟩ = some (.string t174) ∧ w'.cell? ⟨gb179, 3, none⟩ = some (.slice (some ad191) t175.length co14) ∧ w'.cell? (ad190.add (x88_3).toNat) = some (.string (rdOf ByteArray.empty t167 x88_3)) ∧ w'.cell? (ad191.add (x88_3).toNat) = some (.string (rdOf ByteArray.empty t175 x88_3))) (ds := []) (bA 12 0) (by kernel_rfl) rfl (by kernel_rfl) ⟨cT BK171 0, cT BK171 1, cT BK171 2, cT BK171 3, cT BK179 0, cT BK179 1, cT BK179 2, cT BK179 3, hx190_0, hx191_0⟩ (fun hHeld => ?_); refine with_tabW version_Cmp.tab13 version_Cmp.bits13 (fun HT_ HW_ => ?_)
               generalize wr.drew = w102 at HO_172003 HO_180003 BK171 BK179 BK180 BK181 HB hx190_0 hx191_0 hHeld ⊢
               refine pT 0 91 (bA 12 1) HT_.out ?_
               refine pT 2 93 (bA 12 5) HT_.out ?_
               refine pT 5 96 (bA 12 37) HT_.out ?_
               refine pT 7 98 (bA 12 165) HT_.out ?_
               refine tT 1 92 (bA 12 167) HT_.out HW_.out hHeld ?_ (hy := by rintro w' ⟨s0, s1, s2, s3, s4, s5, s6, s7, s8, s9⟩; go_simp; with_reducible rfl)
               refine pT 3 94 (bA 12 175) HT_.out ?_
               refine tT 4 95 (bA 12 191) HT_.out HW_.out hHeld ?_ (hy := by rintro w' ⟨s0, s1, s2, s3, s4, s5, s6, s7, s8, s9⟩; go_simp; with_reducible rfl)
               refine tT 6 97 (bA 12 255) HT_.out HW_.out hHeld ?_ (hy := by rintro w' ⟨s0, s1, s2, s3, s4, s5, s6, s7, s8, s9⟩; go_simp; with_reducible rfl)
               refine pT 8 99 (bA 12 511) HT_.out ?_
               refine tT 9 100 (bA 12 1023) HT_.out HW_.out hHeld ?_ (hy := by rintro w' ⟨s0, s1, s2, s3, s4, s5, s6, s7, s8, s9⟩; go_simp; with_reducible rfl)
               refine oT 10 (bA 12 2047) HT_.out fun K hK => ?_
               refine gS Tryd.func26 #[.string (rdOf ByteArray.empty t167 x88_3), .string (rdOf ByteArray.empty t175 x88_3)] ?_
               with_reducible refine (version_words.calls k3 (rdOf ByteArray.empty t167 x88_3) (rdOf ByteArray.empty t175 x88_3) t192 _ A98.out).mono ?_
               rintro e w103 ⟨rfl, hb⟩
               have HS8_ := (hb.cell (World.block_lt_of_cell? _ _ (hHeld.2.2.2.2.2.2.2.2.1))).trans (hHeld.2.2.2.2.2.2.2.2.1)
               have HS9_ := (hb.cell (World.block_lt_of_cell? _ _ (hHeld.2.2.2.2.2.2.2.2.2))).trans (hHeld.2.2.2.2.2.2.2.2.2)
               refine ⟨_, rfl, ?_⟩
               replace HO_172003 := am (rB HO_172003.out hb)
               replace HO_180003 := am (rB HO_180003.out hb)
               replace BK171 := am (bB BK171.out hb)
               replace BK179 := am (bB BK179.out hb)
               replace BK180 := am (bB BK180.out hb)
               replace BK181 := am (bB BK181.out hb)
               replace HB := am (sT HB.out hb)
               (try clear hb)
               (try clear hb2)
               (try clear hk)
               (try clear hi)
               refine hK.out _ _ ⟨cT BK171 0, cT BK171 1, cT BK171 2, cT BK171 3, cT BK179 0, cT BK179 1, cT BK179 2, cT BK179 3, HS8_, HS9_⟩ (fun hHeld => ?_)
               clear hK K
               refine mN 101 ?_
               refine pT 11 13 (bA 12 4095) HT_.out ?_
               refine done_ (done_of HT_.out (by kernel_rfl)) ?_
               try go_wp2
               go_ret2
               exact ⟨by first | rfl | (simp [errW_none, errW_some] <;> rfl) | (simp only [← hji86]; first | rfl | (simp [errW_none, errW_some] <;> rfl)) | (simp [*, errW_none, errW_some] <;> rfl), eT HB.out⟩
             ·rw [if_neg c97] at H
              exact absurd H (by simp)
            ·rw [if_neg c96] at H
             exact absurd H (by simp)
           ·rw [if_neg c95] at H
            exact absurd H (by simp)
          ·rw [if_neg c94] at H
           have c94b0 : decide (x88_3 < ji86) = false := decide_eq_false c94
           clear c94
           replace H := Option.bind_eq_some_iff.mp H
           obtain ⟨t193, A1040, H⟩ := H
           replace H : (some (t193, 0)) = some (r1, r2) := H
           have A104 := Aside0.mk A1040
           clear A1040
           simp only [Option.some.injEq, Prod.mk.injEq] at H
           obtain ⟨rfl, rfl⟩ := H
           have hnb105 := NB171_179.out
           have hnc105 := NB179_171.out
           have hnb106 := NB171_180.out
           have hnc106 := NB180_171.out
           have hnb107 := NB171_181.out
           have hnc107 := NB181_171.out
           have hcz108_0 : wr.cell? ⟨gb171, 0, none⟩ = some (.string t164) := cT BK171 0
           have hcz108_1 : wr.cell? ⟨gb171, 1, none⟩ = some (.string t165) := cT BK171 1
           have hcz108_2 : wr.cell? ⟨gb171, 2, none⟩ = some (.string t166) := cT BK171 2
           have hcz108_3 : wr.cell? ⟨gb171, 3, none⟩ = some (.slice Ao9 t167.length co9) := cT BK171 3
           have hfz108_0 := blk_frozen BK171.out 0
           have hfz108_1 := blk_frozen BK171.out 1
           have hfz108_2 := blk_frozen BK171.out 2
           have hfz108_3 := blk_frozen BK171.out 3
           have hnb109 := NB179_180.out
           have hnc109 := NB180_179.out
           have hnb110 := NB179_181.out
           have hnc110 := NB181_179.out
           have hcz111_0 : wr.cell? ⟨gb179, 0, none⟩ = some (.string t172) := cT BK179 0
           have hcz111_1 : wr.cell? ⟨gb179, 1, none⟩ = some (.string t173) := cT BK179 1
           have hcz111_2 : wr.cell? ⟨gb179, 2, none⟩ = some (.string t174) := cT BK179 2
           have hcz111_3 : wr.cell? ⟨gb179, 3, none⟩ = some (.slice Ao14 t175.length co14) := cT BK179 3
           have hfz111_0 := blk_frozen BK179.out 0
           have hfz111_1 := blk_frozen BK179.out 1
           have hfz111_2 := blk_frozen BK179.out 2
           have hfz111_3 := blk_frozen BK179.out 3
           go_wp2_with (first | ((with_reducible refine gate_callee (f := 25) rfl ?_); refine gL (some 112) Tryd.func25 #[.int .i64 (t167.length : Int), .int .i64 (t175.length : Int)] ?_; (with_reducible refine (cmp_Compare_int.calls (t167.length : Int) (t175.length : Int) t193 _ A104.out).mono ?_); rintro e w' ⟨rfl, ⟨nd, rfl⟩⟩; refine ⟨_, rfl, ?_⟩))
           go_ret2
           exact ⟨by first | rfl | (simp [errW_none, errW_some] <;> rfl) | (simp only [← hji86]; first | rfl | (simp [errW_none, errW_some] <;> rfl)) | (simp [*, errW_none, errW_some] <;> rfl), eT HB.out⟩

end Go.Proofs.YtjadpeahoaogcaaDoor.P
