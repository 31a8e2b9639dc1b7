-- half the indentation
import Derived.Test.YtknmfmedklfepaaGreatDoorSqz
import Derived.Test.YtknmfmedklfepaaGreatDoorP0
import Derived.Test.YtknmfmedklfepaaGreatDoorP2
import Derived.Test.YtknmfmedklfepaaGreatDoorP17
import Derived.Test.YtknmfmedklfepaaGreatDoorP18
namespace Go.Proofs.YtknmfmedklfepaaGreatDoor.P
open Go.RowKit Go.Proofs.YtknmfmedklfepaaGreatDoorW.PrintWords Go.Proofs.YtknmfmedklfepaaGreatDoorW.PrintLast Go.Proofs.YtknmfmedklfepaaGreatDoorW.PrintMore
attribute [local go_sem] max2_int min2_int max_two min_two max_three min_three max_four min_four
set_option linter.unusedVariables false
set_option linter.unusedSimpArgs false
set_option maxHeartbeats 8000000
set_option maxRecDepth 100000

attribute [local go_sem high] eqA101
/-! ### version_Cmp: function 41 -/
mutual
def version_Cmp.j0 : Nat → Bool → ByteArray → ByteArray → ByteArray → List ByteArray → ByteArray → ByteArray → ByteArray → List ByteArray → Option (Int × Int)
 | 0, _, _, _, _, _, _, _, _, _ => none
 | k + 1, x29, aM, aN, aO, aJ, aP, aQ, aR, aK => if x29 = true then (some (0, 1)) else (if (!(aM.toList == aP.toList) || (!(aN.toList == aQ.toList) || (!(aO.toList == aR.toList)))) = true then ((version_numbers.f k aM aP).bind fun a6 => ((version_numbers.f k aN aQ).bind fun aW => ((version_numbers.f k aO aR).bind fun aV => ((cmp_Or_int.f k (([a6, aW, aV] : List Int))).bind fun aX => (some (aX, 0)))))) else (if (aJ.length : Int) = 0 then (version_Cmp.j1 k true aM aN aO aJ aP aQ aR aK) else (version_Cmp.j1 k ((aK.length : Int) == 0) aM aN aO aJ aP aQ aR aK)))
def version_Cmp.j1 : Nat → Bool → ByteArray → ByteArray → ByteArray → List ByteArray → ByteArray → ByteArray → ByteArray → List ByteArray → Option (Int × Int)
 | 0, _, _, _, _, _, _, _, _, _ => none
 | k + 1, x73, aM, aN, aO, aJ, aP, aQ, aR, aK => if x73 = true then ((cmp_Compare_int.f (aK.length : Int) (aJ.length : Int)).bind fun bX => (some (bX, 0))) else (version_Cmp.l0 k (mn (aJ.length : Int) (aK.length : Int)) 0 aM aN aO aJ aP aQ aR aK)
def version_Cmp.l0 : Nat → Int → Int → ByteArray → ByteArray → ByteArray → List ByteArray → ByteArray → ByteArray → ByteArray → List ByteArray → Option (Int × Int)
 | 0, _, _, _, _, _, _, _, _, _, _ => none
 | k + 1, x87, x88, aM, aN, aO, aJ, aP, aQ, aR, aK => if x88 < x87 then (if 0 ≤ x88 then (if x88 < (aJ.length : Int) then (if x88 < (aK.length : Int) then ((version_words.f k (rdOf ByteArray.empty aJ x88) (rdOf ByteArray.empty aK x88)).bind fun a7 => (if a7 = 0 then (version_Cmp.l0 k x87 (wrap64 (x88 + 1)) aM aN aO aJ aP aQ aR aK) else (some (a7, 0)))) else (none)) else (none)) else (none)) else ((cmp_Compare_int.f (aJ.length : Int) (aK.length : Int)).bind fun b2 => (some (b2, 0)))
end
def version_Cmp.f (k : Nat) (a0 : ByteArray) (a1 : ByteArray) : Option (Int × Int) := (version_Split.f k a0).bind fun bt191 => ((version_Split.f k a1).bind fun bt199 => (if bt191.2.2.2.2 = 0 then (version_Cmp.j0 k (bt199.2.2.2.2 != 0) bt191.1 bt191.2.1 bt191.2.2.1 bt191.2.2.2.1 bt199.1 bt199.2.1 bt199.2.2.1 bt199.2.2.2.1) else (version_Cmp.j0 k true bt191.1 bt191.2.1 bt191.2.2.1 bt191.2.2.2.1 bt199.1 bt199.2.1 bt199.2.2.1 bt199.2.2.2.1)))
theorem version_Cmp.mono_l : ∀ k, (∀ y0 y1 y2 y3 y4 y5 y6 y7 y8, LeO (version_Cmp.j0 k y0 y1 y2 y3 y4 y5 y6 y7 y8) (version_Cmp.j0 (k + 1) y0 y1 y2 y3 y4 y5 y6 y7 y8)) ∧ (∀ y0 y1 y2 y3 y4 y5 y6 y7 y8, LeO (version_Cmp.j1 k y0 y1 y2 y3 y4 y5 y6 y7 y8) (version_Cmp.j1 (k + 1) y0 y1 y2 y3 y4 y5 y6 y7 y8)) ∧ (∀ y0 y1 y2 y3 y4 y5 y6 y7 y8 y9, LeO (version_Cmp.l0 k y0 y1 y2 y3 y4 y5 y6 y7 y8 y9) (version_Cmp.l0 (k + 1) y0 y1 y2 y3 y4 y5 y6 y7 y8 y9))
 | 0 => ⟨fun _ _ _ _ _ _ _ _ _ r h => by simp [version_Cmp.j0] at h, fun _ _ _ _ _ _ _ _ _ r h => by simp [version_Cmp.j1] at h, fun _ _ _ _ _ _ _ _ _ _ r h => by simp [version_Cmp.l0] at h⟩
 | k + 1 => by
  obtain ⟨ih0, ih1, ih2⟩ := version_Cmp.mono_l k
  refine ⟨?_, ?_, ?_⟩
  ·intro y0 y1 y2 y3 y4 y5 y6 y7 y8
   unfold version_Cmp.j0
   repeat' first | (with_reducible first | apply ih0 | apply ih1 | apply ih2 | apply cmp_Or_int.mono | apply version_Split.mono | apply version_numbers.mono | apply version_words.mono | apply LeO.refl | apply LeO.none | apply LeO.ite | refine LeO.bind ?_ (fun _ => ?_)) | apply ih0 | apply ih1 | apply ih2 | apply cmp_Or_int.mono | apply version_Split.mono | apply version_numbers.mono | apply version_words.mono | exact LeO.none _ | refine LeO.ite ?_ ?_ | refine LeO.bind ?_ (fun _ => ?_)
  ·intro y0 y1 y2 y3 y4 y5 y6 y7 y8
   unfold version_Cmp.j1
   repeat' first | (with_reducible first | apply ih0 | apply ih1 | apply ih2 | apply cmp_Or_int.mono | apply version_Split.mono | apply version_numbers.mono | apply version_words.mono | apply LeO.refl | apply LeO.none | apply LeO.ite | refine LeO.bind ?_ (fun _ => ?_)) | apply ih0 | apply ih1 | apply ih2 | apply cmp_Or_int.mono | apply version_Split.mono | apply version_numbers.mono | apply version_words.mono | exact LeO.none _ | refine LeO.ite ?_ ?_ | refine LeO.bind ?_ (fun _ => ?_)
  ·intro y0 y1 y2 y3 y4 y5 y6 y7 y8 y9
   unfold version_Cmp.l0
   repeat' first | (with_reducible first | apply ih0 | apply ih1 | apply ih2 | apply cmp_Or_int.mono | apply version_Split.mono | apply version_numbers.mono | apply version_words.mono | apply LeO.refl | apply LeO.none | apply LeO.ite | refine LeO.bind ?_ (fun _ => ?_)) | apply ih0 | apply ih1 | apply ih2 | apply cmp_Or_int.mono | apply version_Split.mono | apply version_numbers.mono | apply version_words.mono | exact LeO.none _ | refine LeO.ite ?_ ?_ | refine LeO.bind ?_ (fun _ => ?_)
theorem version_Cmp.mono : ∀ a0 a1 k, LeO (version_Cmp.f k a0 a1) (version_Cmp.f (k + 1) a0 a1) := by
 intro a0 a1 k
 obtain ⟨ih0, ih1, ih2⟩ := version_Cmp.mono_l k
 unfold version_Cmp.f
 repeat' first | (with_reducible first | apply ih0 | apply ih1 | apply ih2 | apply cmp_Or_int.mono | apply version_Split.mono | apply version_numbers.mono | apply version_words.mono | apply LeO.refl | apply LeO.none | apply LeO.ite | refine LeO.bind ?_ (fun _ => ?_)) | apply ih0 | apply ih1 | apply ih2 | apply cmp_Or_int.mono | apply version_Split.mono | apply version_numbers.mono | apply version_words.mono | exact LeO.none _ | refine LeO.ite ?_ ?_ | refine LeO.bind ?_ (fun _ => ?_)
def version_Cmp.T5 : Bool × List (List Nat × List Nat) := (true, [([], []), ([0], [0]), ([], []), ([2], [2]), ([], []), ([4], [4]), ([1, 3, 5], [1, 3, 5]), ([], []), ([7], [7]), ([], []), ([9], [9]), ([], []), ([11], [11]), ([8, 10, 12], [8, 10, 12]), ([], []), ([], []), ([14, 6, 0, 1, 2, 3, 4, 5, 6, 14, 15], [6, 14]), ([15, 13, 16, 0, 1, 2, 3, 4, 5, 6, 7, 8, 9, 10, 11, 12, 13, 14, 15, 16], [13, 15])])
def version_Cmp.B5 : List Nat := [0, 1, 0, 4, 0, 16, 63, 0, 128, 0, 512, 0, 2048, 8064, 0, 0, 49279, 131071]
theorem version_Cmp.tab5 : rtab .any (opsOf Tryz.f41 5) = version_Cmp.T5 := by kernel_rfl
theorem version_Cmp.bits5 : waitsOk version_Cmp.T5.2 version_Cmp.B5 = true := by kernel_rfl
def version_Cmp.T7 : Bool × List (List Nat × List Nat) := (true, [([], []), ([0], [0]), ([], []), ([2], [2]), ([1, 3], [1, 3]), ([], []), ([5], [5]), ([], []), ([7], [7]), ([6, 8, 4], [6, 8]), ([], []), ([10], [10]), ([], []), ([12], [12]), ([11, 13, 9], [11, 13]), ([4, 9, 14], [4, 9, 14]), ([15, 14], [15]), ([16, 16, 0, 1, 2, 3, 4, 5, 6, 7, 8, 9, 10, 11, 12, 13, 14, 15, 16], [16]), ([17, 0, 1, 2, 3, 4, 5, 6, 7, 8, 9, 10, 11, 12, 13, 14, 15, 16, 17], [])])
def version_Cmp.B7 : List Nat := [0, 1, 0, 4, 15, 0, 32, 0, 128, 511, 0, 1024, 0, 4096, 16383, 32767, 65535, 131071, 262143]
theorem version_Cmp.tab7 : rtab .any (opsOf Tryz.f41 7) = version_Cmp.T7 := by kernel_rfl
theorem version_Cmp.bits7 : waitsOk version_Cmp.T7.2 version_Cmp.B7 = true := by kernel_rfl
def version_Cmp.T13 : Bool × List (List Nat × List Nat) := (true, [([], []), ([0], [0]), ([], []), ([1, 2], [1, 2]), ([3], [3]), ([], []), ([5], [5]), ([], []), ([6, 7], [6, 7]), ([8], [8]), ([4, 9], [4, 9]), ([10, 10, 0, 1, 2, 3, 4, 5, 6, 7, 8, 9, 10], [10])])
def version_Cmp.B13 : List Nat := [0, 1, 0, 7, 15, 0, 32, 0, 224, 480, 1023, 2047]
theorem version_Cmp.tab13 : rtab .any (opsOf Tryz.f41 13) = version_Cmp.T13 := by kernel_rfl
theorem version_Cmp.bits13 : waitsOk version_Cmp.T13.2 version_Cmp.B13 = true := by kernel_rfl
theorem version_Cmp.calls (k : Nat) (a0 : ByteArray) (a1 : ByteArray) (r1 : Int) (r2 : Int) (w : World) (h : version_Cmp.f k a0 a1 = some (r1, r2)) :
  Calls Tryz.prog 41 #[.string a0, .string a1] w fun e w' => e = .returned (.tuple #[.int .i64 r1, .int .i64 r2]) ∧ Below w.heap.size w w' := by
 have hu98 := Tryz.underlying98
 have hu101 := Tryz.underlying101
 have HB := am (Below.refl w.heap.size w)
 unfold version_Cmp.f at h; have H := h; clear h
 replace H := bnd H; obtain ⟨⟨aA, aB, aE, ar, bb⟩, A3, H⟩ := H
 (try dsimp only at H)
 replace H := bnd H; obtain ⟨⟨az, aC, aF, aw, cK⟩, A4, H⟩ := H
 (try dsimp only at H)
 have HC5 := Aside0.mk H
 clear H
 go_enter Tryz.func41, Tryz.ntmps41
 go_upto_region 3 with (first | ((with_reducible refine gtC 65 ?_); refine xCl 16 Tryz.func65 (version_Split.calls k a0 aA aB aE ar bb _ A3.out) ?_; rintro e w6 ⟨gq, rfl, ho0, hb⟩; refine ⟨_, rfl, ?_⟩; have aU := am (Kd.R_lower ho0 (below_size (eTx HB.out))); replace HB := am (sTx HB.out hb)) | ((with_reducible refine gtD 6 ?_); (try (refine gate_guard (by rfl) ?_; dsimp only)); refine xBx 6 98 #[.string (⟨#[]⟩ : ByteArray), .string (⟨#[]⟩ : ByteArray), .string (⟨#[]⟩ : ByteArray), .slice none 0 0] ?_; intro ao hg w7 hbox hb; replace aU := am (rB aU.out hb); have aa := am (hbox); have fa := am ((gTx hg HB.out)); have fb := am ((gTx hg HB.out)); replace HB := am (sTx HB.out hb); clear hb hbox hg; obtain ⟨cL, cM, cN, cO, cP, cQ, cR, cS⟩ := bxD aa; obtain ⟨Ao9, co9, eo9⟩ := Kd.R_slice aU.out; subst eo9) | ((with_reducible refine gtC 65 ?_); refine xCl 21 Tryz.func65 (version_Split.calls k a1 az aC aF aw cK _ A4.out) ?_; rintro e w10 ⟨gr, rfl, ho0, hb⟩; refine ⟨_, rfl, ?_⟩; have bc := am (Kd.R_lower (Kd.R_new' ho0 (Kd.R_lt (by (with_reducible repeat (first | apply Kd.R_alloc | apply Kd.R_drewN | apply Kd.R_drew)); exact (Kd.R_mono (Kd.R_far (p := ⟨ao, 3, none⟩) (Kd.R_far (p := ⟨ao, 2, none⟩) (Kd.R_far (p := ⟨ao, 1, none⟩) (Kd.R_far (p := ⟨ao, 0, none⟩) (Kd.R_types aU.out aa.out (by decide)) (fun _ hk => hk.2) (.string aA)) (fun _ hk => hk.2) (.string aB)) (fun _ hk => hk.2) (.string aE)) (fun _ hk => hk.2) (.slice Ao9 ar.length co9)) (fun _ h_ => h_.1))))) (below_size (eTx HB.out))); replace aU := am (Kd.R_elder' (by (with_reducible repeat (first | apply Kd.R_alloc | apply Kd.R_drewN | apply Kd.R_drew)); exact (Kd.R_mono (Kd.R_far (p := ⟨ao, 3, none⟩) (Kd.R_far (p := ⟨ao, 2, none⟩) (Kd.R_far (p := ⟨ao, 1, none⟩) (Kd.R_far (p := ⟨ao, 0, none⟩) (Kd.R_types aU.out aa.out (by decide)) (fun _ hk => hk.2) (.string aA)) (fun _ hk => hk.2) (.string aB)) (fun _ hk => hk.2) (.string aE)) (fun _ hk => hk.2) (.slice Ao9 ar.length co9)) (fun _ h_ => h_.1))) (Kd.R_base ho0) hb); replace HB := am (sTx HB.out hb); replace aa := am (blk_below (g := ao) (o := .cells #[.string aA, .string aB, .string aE, .slice Ao9 ar.length co9] 98 (0, 0)) kBk hb)) | ((with_reducible refine gtD 8 ?_); (try (refine gate_guard (by rfl) ?_; dsimp only)); refine xBx 8 98 #[.string (⟨#[]⟩ : ByteArray), .string (⟨#[]⟩ : ByteArray), .string (⟨#[]⟩ : ByteArray), .slice none 0 0] ?_; intro an hg w11 hbox hb; replace aU := am (rB aU.out hb); replace bc := am (rB bc.out hb); have ab := am (hbox); have fc := am ((gTx hg HB.out)); have fd := am ((gTx hg HB.out)); have aG := am ((nT aa.out hg)); have aL := am ((mT aa.out hg)); replace aa := am (bB aa.out hb); replace HB := am (sTx HB.out hb); clear hb hbox hg; have fe := aL.out; have ff := aG.out; obtain ⟨b3, b4, b5, b6, b7, b8, b9, b_⟩ := bxD ab; obtain ⟨aI, aH, eX⟩ := Kd.R_slice bc.out; subst eX))
 (try simp only [Act.put, List.setIfInBounds_toArray, List.set_cons_zero, List.set_cons_succ])
 go_cut [29] (fun v29 wc => ∃ (kq : Nat) (bh : Bool), v29 = .bool bh ∧ Aside0 (version_Cmp.j0 kq bh aA aB aE ar az aC aF aw = some (r1, r2)) ∧ Aside0 (kq ≤ k) ∧ Aside0 (Kd.R Kd.string 9 wc w.heap.size (fun k_ => some k_ ≠ ((.slice aI aw.length aH) : Value).ownBlock) (.slice Ao9 ar.length co9) ar) ∧ Aside0 (Kd.R Kd.string 9 wc w.heap.size (fun k_ => some k_ ≠ ((.slice Ao9 ar.length co9) : Value).ownBlock) (.slice aI aw.length aH) aw) ∧ Aside0 (wc.heap[ao]? = some (.cells #[.string aA, .string aB, .string aE, (.slice Ao9 ar.length co9)] 98 (0, 0))) ∧ Aside0 (wc.heap[an]? = some (.cells #[.string az, .string aC, .string aF, (.slice aI aw.length aH)] 98 (0, 0))) ∧ Aside0 (Below w.heap.size w wc))
 case first =>
  have H := HC5.out
  clear HC5
  replace H := ifP H; rcases H with ⟨c15, H⟩ | ⟨c15, H⟩
  ·have a9 := beq_iff_eq.mpr c15
   have cH := bne_eq_false_iff_eq.mpr c15
   clear c15
   (first | rw [a9] | (simp only [i64_w, i32_w]; rw [a9]) | skip)
   have H' := Aside0.mk H
   clear H
   go_wp2
   go_meet
   case rel => exact ⟨_, ((cK != 0)), rfG, H', ⟨rfO⟩, ⟨by (with_reducible repeat (first | apply Kd.R_alloc | apply Kd.R_drewN | apply Kd.R_drew)); exact Kd.R_mono (Kd.R_far (p := ⟨an, 3, none⟩) (Kd.R_far (p := ⟨an, 2, none⟩) (Kd.R_far (p := ⟨an, 1, none⟩) (Kd.R_far (p := ⟨an, 0, none⟩) (Kd.R_types aU.out ab.out (by decide)) (fun _ hk => hk.2) (.string az)) (fun _ hk => hk.2) (.string aC)) (fun _ hk => hk.2) (.string aF)) (fun _ hk => hk.2) (.slice aI aw.length aH)) (fun _ hk => hk.1.2)⟩, ⟨by (with_reducible repeat (first | apply Kd.R_alloc | apply Kd.R_drewN | apply Kd.R_drew)); exact Kd.R_mono (Kd.R_far (p := ⟨an, 3, none⟩) (Kd.R_far (p := ⟨an, 2, none⟩) (Kd.R_far (p := ⟨an, 1, none⟩) (Kd.R_far (p := ⟨an, 0, none⟩) (Kd.R_types bc.out ab.out (by decide)) (fun _ hk => hk.2) (.string az)) (fun _ hk => hk.2) (.string aC)) (fun _ hk => hk.2) (.string aF)) (fun _ hk => hk.2) (.slice aI aw.length aH)) (fun _ hk => hk.1.2)⟩, ⟨kBk⟩, ⟨kBk⟩, ⟨eTx HB.out⟩⟩
  ·have a9 := beq_eq_false_iff_ne.mpr c15
   have cH := bne_iff_ne.mpr c15
   (first | rw [a9] | (simp only [i64_w, i32_w]; rw [a9]) | skip)
   have H' := Aside0.mk H
   clear H
   go_wp2
   go_meet
   case rel => exact ⟨_, (true), rfG, H', ⟨rfO⟩, ⟨by (with_reducible repeat (first | apply Kd.R_alloc | apply Kd.R_drewN | apply Kd.R_drew)); exact Kd.R_mono (Kd.R_far (p := ⟨an, 3, none⟩) (Kd.R_far (p := ⟨an, 2, none⟩) (Kd.R_far (p := ⟨an, 1, none⟩) (Kd.R_far (p := ⟨an, 0, none⟩) (Kd.R_types aU.out ab.out (by decide)) (fun _ hk => hk.2) (.string az)) (fun _ hk => hk.2) (.string aC)) (fun _ hk => hk.2) (.string aF)) (fun _ hk => hk.2) (.slice aI aw.length aH)) (fun _ hk => hk.1.2)⟩, ⟨by (with_reducible repeat (first | apply Kd.R_alloc | apply Kd.R_drewN | apply Kd.R_drew)); exact Kd.R_mono (Kd.R_far (p := ⟨an, 3, none⟩) (Kd.R_far (p := ⟨an, 2, none⟩) (Kd.R_far (p := ⟨an, 1, none⟩) (Kd.R_far (p := ⟨an, 0, none⟩) (Kd.R_types bc.out ab.out (by decide)) (fun _ hk => hk.2) (.string az)) (fun _ hk => hk.2) (.string aC)) (fun _ hk => hk.2) (.string aF)) (fun _ hk => hk.2) (.slice aI aw.length aH)) (fun _ hk => hk.1.2)⟩, ⟨kBk⟩, ⟨kBk⟩, ⟨eTx HB.out⟩⟩
 case rest =>
  clear HC5
  obtain ⟨kq, bh, rfl, HA, HJ4, ac, ad, aa, ab, HB⟩ := hcut
  cases kq with
  | zero => exact absurd HA.out (by simp [version_Cmp.j0])
  | succ kj4 =>
   have H := HA.out
   clear HA
   simp only [version_Cmp.j0] at H
   replace H := ifB H; rcases H with ⟨rfl, H⟩ | ⟨rfl, H⟩
   ·replace H := prB H; obtain ⟨rfl, rfl⟩ := H
    go_wp2
    go_ret2
    exact ⟨rfF, eTx HB.out⟩
   ·replace H := ifP H; rcases H with ⟨c17, H⟩ | ⟨c17, H⟩
    ·have bZ := c17
     clear c17
     replace H := bnd H; obtain ⟨a6, A18, H⟩ := H
     replace H := bnd H; obtain ⟨aW, A19, H⟩ := H
     replace H := bnd H; obtain ⟨aV, A20, H⟩ := H
     obtain ⟨cU, be⟩ : ∃ y_ : List Int, y_ = (([a6, aW, aV] : List Int)) := ⟨_, rfl⟩
     replace H : ((cmp_Or_int.f kj4 cU).bind fun aX => (some (aX, 0))) = some (r1, r2) := by first | (rw [be]; with_reducible exact H) | (have H2_ := (Option.bind_some _ _).symm.trans H; rw [be]; with_reducible exact H2_) | (have H2_ := (Option.bind_some _ _).symm.trans H; with_reducible exact H2_) | with_reducible exact H | (rw [be]; exact H) | exact H
     have Ny212 := Aside0.mk be
     clear be
     replace H := bnd H; obtain ⟨aX, A21, H⟩ := H
     replace H := prB H; obtain ⟨rfl, rfl⟩ := H
     try go_wp2
     replace ac := am (Kd.R_drew ac.out)
     replace ad := am (Kd.R_drew ad.out)
     replace aa := am (blk_drew aa.out)
     replace ab := am (blk_drew ab.out)
     replace HB := am (below_drew1 HB.out)
     refine start_ (n := 18) (S := fun w' => w'.cell? ⟨ao, 0, none⟩ = some (.string aA) ∧ w'.cell? ⟨ao, 1, none⟩ = some (.string aB) ∧ w'.cell? ⟨ao, 2, none⟩ = some (.string aE) ∧ w'.cell? ⟨ao, 3, none⟩ = some (.slice Ao9 ar.length co9) ∧ w'.cell? ⟨an, 0, none⟩ = some (.string az) ∧ w'.cell? ⟨an, 1, none⟩ = some (.string aC) ∧ w'.cell? ⟨an, 2, none⟩ = some (.string aF) ∧ w'.cell? ⟨an, 3, none⟩ = some (.slice aI aw.length aH)) (ds := []) (bA 18 0) rfK rfl rfK ⟨cT aa 0, cT aa 1, cT aa 2, cT aa 3, cT ab 0, cT ab 1, cT ab 2, cT ab 3⟩ (fun hHeld => ?_); refine with_tabW version_Cmp.tab5 version_Cmp.bits5 (fun HT_ HW_ => ?_)
     generalize wc.drew = w22 at ac ad aa ab HB hHeld ⊢
     refine pT 0 30 (bA 18 1) HT_.out ?_
     refine pT 2 32 (bA 18 5) HT_.out ?_
     refine pT 4 34 (bA 18 21) HT_.out ?_
     refine pT 7 37 (bA 18 149) HT_.out ?_
     refine pT 9 39 (bA 18 661) HT_.out ?_
     refine pT 11 41 (bA 18 2709) HT_.out ?_
     refine tT 1 31 (bA 18 2711) HT_.out HW_.out hHeld ?_ (hy := by rintro w' ⟨s0, s1, s2, s3, s4, s5, s6, s7⟩; go_simp; with_reducible rfl)
     refine tT 3 33 (bA 18 2719) HT_.out HW_.out hHeld ?_ (hy := by rintro w' ⟨s0, s1, s2, s3, s4, s5, s6, s7⟩; go_simp; with_reducible rfl)
     refine tT 5 35 (bA 18 2751) HT_.out HW_.out hHeld ?_ (hy := by rintro w' ⟨s0, s1, s2, s3, s4, s5, s6, s7⟩; go_simp; with_reducible rfl)
     refine pT 6 36 (bA 18 2815) HT_.out ?_
     refine tT 8 38 (bA 18 3071) HT_.out HW_.out hHeld ?_ (hy := by rintro w' ⟨s0, s1, s2, s3, s4, s5, s6, s7⟩; go_simp; with_reducible rfl)
     refine tT 10 40 (bA 18 4095) HT_.out HW_.out hHeld ?_ (hy := by rintro w' ⟨s0, s1, s2, s3, s4, s5, s6, s7⟩; go_simp; with_reducible rfl)
     refine tT 12 42 (bA 18 8191) HT_.out HW_.out hHeld ?_ (hy := by rintro w' ⟨s0, s1, s2, s3, s4, s5, s6, s7⟩; go_simp; with_reducible rfl)
     refine pT 13 43 (bA 18 16383) HT_.out ?_
     refine join_ (σ := Nat × Nat) 2 (bA 18 65535) (fun s_ => [(10, .pointer (some ⟨s_.1, 0, none⟩)), (11, .pointer (some ⟨s_.2, 0, none⟩))]) (fun s_ w' => (w'.cell? ⟨ao, 0, none⟩ = some (.string aA) ∧ w'.cell? ⟨ao, 1, none⟩ = some (.string aB) ∧ w'.cell? ⟨ao, 2, none⟩ = some (.string aE) ∧ w'.cell? ⟨ao, 3, none⟩ = some (.slice Ao9 ar.length co9) ∧ w'.cell? ⟨an, 0, none⟩ = some (.string az) ∧ w'.cell? ⟨an, 1, none⟩ = some (.string aC) ∧ w'.cell? ⟨an, 2, none⟩ = some (.string aF) ∧ w'.cell? ⟨an, 3, none⟩ = some (.slice aI aw.length aH)) ∧ (Kd.R Kd.string 9 w' w.heap.size (fun k_ => some k_ ≠ (.slice aI aw.length aH : Value).ownBlock) (.slice Ao9 ar.length co9) ar) ∧ (Kd.R Kd.string 9 w' w.heap.size (fun k_ => some k_ ≠ (.slice Ao9 ar.length co9 : Value).ownBlock) (.slice aI aw.length aH) aw) ∧ (w'.heap[ao]? = some (.cells #[.string aA, .string aB, .string aE, .slice Ao9 ar.length co9] 98 (0, 0))) ∧ (w'.heap[an]? = some (.cells #[.string az, .string aC, .string aF, .slice aI aw.length aH] 98 (0, 0))) ∧ (w'.heap[s_.1]? = some (.cells #[.string (⟨#[]⟩ : ByteArray), .string (⟨#[]⟩ : ByteArray), .string (⟨#[]⟩ : ByteArray)] 101 (0, 0))) ∧ (w'.heap[s_.2]? = some (.cells #[.string (⟨#[]⟩ : ByteArray), .string (⟨#[]⟩ : ByteArray), .string (⟨#[]⟩ : ByteArray)] 101 (0, 0))) ∧ (w.heap.size ≤ s_.1) ∧ (w.heap.size ≤ s_.1) ∧ (ao ≠ s_.1) ∧ (s_.1 ≠ ao) ∧ (an ≠ s_.1) ∧ (s_.1 ≠ an) ∧ (s_.2 ≠ s_.1) ∧ (s_.1 ≠ s_.2) ∧ (w.heap.size ≤ s_.2) ∧ (w.heap.size ≤ s_.2) ∧ (ao ≠ s_.2) ∧ (s_.2 ≠ ao) ∧ (an ≠ s_.2) ∧ (s_.2 ≠ an) ∧ (Below w.heap.size w w')) ?_ ?_
     rotate_left
     ·intro hCont
      refine dT (some 10) (some 11) 14 15 (bA 18 32767) (bA 18 49151) HT_.out (fun K hK => ?_) (fun K hK => ?_)
      ·skip
       refine yBx 10 101 #[.string (⟨#[]⟩ : ByteArray), .string (⟨#[]⟩ : ByteArray), .string (⟨#[]⟩ : ByteArray)] ?_
       intro ae hg w23 hbox hb
       replace ac := am (rB ac.out hb)
       replace ad := am (rB ad.out hb)
       have ak := am (hbox)
       have aY := am ((gTx hg HB.out))
       have aZ := am ((gTx hg HB.out))
       have ag := am ((nT aa.out hg))
       have au := am ((mT aa.out hg))
       have ai := am ((nT ab.out hg))
       have ax := am ((mT ab.out hg))
       replace aa := am (bB aa.out hb)
       replace ab := am (bB ab.out hb)
       replace HB := am (sTx HB.out hb)
       clear hb hbox hg
       refine hK.out _ _ ⟨cT aa 0, cT aa 1, cT aa 2, cT aa 3, cT ab 0, cT ab 1, cT ab 2, cT ab 3⟩ (fun hHeld => ?_)
       clear hK K
       refine mN 10 ?_
       refine oT 15 (bA 18 65535) HT_.out fun K hK => ?_
       refine yBx 11 101 #[.string (⟨#[]⟩ : ByteArray), .string (⟨#[]⟩ : ByteArray), .string (⟨#[]⟩ : ByteArray)] ?_
       intro af hg w24 hbox hb
       replace ac := am (rB ac.out hb)
       replace ad := am (rB ad.out hb)
       have al := am (hbox)
       have a2 := am ((gTx hg HB.out))
       have a3 := am ((gTx hg HB.out))
       have ah := am ((nT aa.out hg))
       have av := am ((mT aa.out hg))
       have aj := am ((nT ab.out hg))
       have ay := am ((mT ab.out hg))
       have ap := am ((nT ak.out hg))
       have aq := am ((mT ak.out hg))
       replace aa := am (bB aa.out hb)
       replace ab := am (bB ab.out hb)
       replace ak := am (bB ak.out hb)
       replace HB := am (sTx HB.out hb)
       clear hb hbox hg
       refine hK.out _ _ ⟨cT aa 0, cT aa 1, cT aa 2, cT aa 3, cT ab 0, cT ab 1, cT ab 2, cT ab 3⟩ (fun hHeld => ?_)
       clear hK K
       refine mN 11 ?_
       exact norm_ rfQ (hCont (ae, af) _ ⟨hHeld, (rT ac.out), (rT ad.out), (bT aa.out), (bT ab.out), (bT ak.out), (bT al.out), aY.out, aZ.out, ag.out, au.out, ai.out, ax.out, aq.out, ap.out, a2.out, a3.out, ah.out, av.out, aj.out, ay.out, (eTx HB.out)⟩)
      ·skip
       refine yBx 11 101 #[.string (⟨#[]⟩ : ByteArray), .string (⟨#[]⟩ : ByteArray), .string (⟨#[]⟩ : ByteArray)] ?_
       intro af hg w23 hbox hb
       replace ac := am (rB ac.out hb)
       replace ad := am (rB ad.out hb)
       have al := am (hbox)
       have a2 := am ((gTx hg HB.out))
       have a3 := am ((gTx hg HB.out))
       have ah := am ((nT aa.out hg))
       have av := am ((mT aa.out hg))
       have aj := am ((nT ab.out hg))
       have ay := am ((mT ab.out hg))
       replace aa := am (bB aa.out hb)
       replace ab := am (bB ab.out hb)
       replace HB := am (sTx HB.out hb)
       clear hb hbox hg
       refine hK.out _ _ ⟨cT aa 0, cT aa 1, cT aa 2, cT aa 3, cT ab 0, cT ab 1, cT ab 2, cT ab 3⟩ (fun hHeld => ?_)
       clear hK K
       refine mN 11 ?_
       refine oT 14 (bA 18 65535) HT_.out fun K hK => ?_
       refine yBx 10 101 #[.string (⟨#[]⟩ : ByteArray), .string (⟨#[]⟩ : ByteArray), .string (⟨#[]⟩ : ByteArray)] ?_
       intro ae hg w24 hbox hb
       replace ac := am (rB ac.out hb)
       replace ad := am (rB ad.out hb)
       have ak := am (hbox)
       have aY := am ((gTx hg HB.out))
       have aZ := am ((gTx hg HB.out))
       have ag := am ((nT aa.out hg))
       have au := am ((mT aa.out hg))
       have ai := am ((nT ab.out hg))
       have ax := am ((mT ab.out hg))
       have aq := am ((nT al.out hg))
       have ap := am ((mT al.out hg))
       replace aa := am (bB aa.out hb)
       replace ab := am (bB ab.out hb)
       replace al := am (bB al.out hb)
       replace HB := am (sTx HB.out hb)
       clear hb hbox hg
       refine hK.out _ _ ⟨cT aa 0, cT aa 1, cT aa 2, cT aa 3, cT ab 0, cT ab 1, cT ab 2, cT ab 3⟩ (fun hHeld => ?_)
       clear hK K
       refine mN 10 ?_
       exact norm_ rfQ (hCont (ae, af) _ ⟨hHeld, (rT ac.out), (rT ad.out), (bT aa.out), (bT ab.out), (bT ak.out), (bT al.out), aY.out, aZ.out, ag.out, au.out, ai.out, ax.out, aq.out, ap.out, a2.out, a3.out, ah.out, av.out, aj.out, ay.out, (eTx HB.out)⟩)
     rintro ⟨ae, af⟩ w25 ⟨hS_, h0_, h1_, h2_, h3_, h4_, h5_, h6_, h7_, h8_, h9_, h10_, h11_, h12_, h13_, h14_, h15_, h16_, h17_, h18_, h19_, h20_⟩
     replace ac : Aside0 (Kd.R Kd.string 9 w25 w.heap.size (fun k_ => some k_ ≠ (.slice aI aw.length aH : Value).ownBlock) (.slice Ao9 ar.length co9) ar) := ⟨h0_⟩
     replace ad : Aside0 (Kd.R Kd.string 9 w25 w.heap.size (fun k_ => some k_ ≠ (.slice Ao9 ar.length co9 : Value).ownBlock) (.slice aI aw.length aH) aw) := ⟨h1_⟩
     replace aa : Aside0 (w25.heap[ao]? = some (.cells #[.string aA, .string aB, .string aE, .slice Ao9 ar.length co9] 98 (0, 0))) := ⟨h2_⟩
     replace ab : Aside0 (w25.heap[an]? = some (.cells #[.string az, .string aC, .string aF, .slice aI aw.length aH] 98 (0, 0))) := ⟨h3_⟩
     have ak : Aside0 (w25.heap[ae]? = some (.cells #[.string (⟨#[]⟩ : ByteArray), .string (⟨#[]⟩ : ByteArray), .string (⟨#[]⟩ : ByteArray)] 101 (0, 0))) := ⟨h4_⟩
     have al : Aside0 (w25.heap[af]? = some (.cells #[.string (⟨#[]⟩ : ByteArray), .string (⟨#[]⟩ : ByteArray), .string (⟨#[]⟩ : ByteArray)] 101 (0, 0))) := ⟨h5_⟩
     have aY : Aside0 (w.heap.size ≤ ae) := ⟨h6_⟩
     have aZ : Aside0 (w.heap.size ≤ ae) := ⟨h7_⟩
     have ag : Aside0 (ao ≠ ae) := ⟨h8_⟩
     have au : Aside0 (ae ≠ ao) := ⟨h9_⟩
     have ai : Aside0 (an ≠ ae) := ⟨h10_⟩
     have ax : Aside0 (ae ≠ an) := ⟨h11_⟩
     have aq : Aside0 (af ≠ ae) := ⟨h12_⟩
     have ap : Aside0 (ae ≠ af) := ⟨h13_⟩
     have a2 : Aside0 (w.heap.size ≤ af) := ⟨h14_⟩
     have a3 : Aside0 (w.heap.size ≤ af) := ⟨h15_⟩
     have ah : Aside0 (ao ≠ af) := ⟨h16_⟩
     have av : Aside0 (af ≠ ao) := ⟨h17_⟩
     have aj : Aside0 (an ≠ af) := ⟨h18_⟩
     have ay : Aside0 (af ≠ an) := ⟨h19_⟩
     replace HB : Aside0 (Below w.heap.size w w25) := ⟨h20_⟩
     clear h0_ h1_ h2_ h3_ h4_ h5_ h6_ h7_ h8_ h9_ h10_ h11_ h12_ h13_ h14_ h15_ h16_ h17_ h18_ h19_ h20_
     have hHeld := hS_
     (try dsimp only at hHeld)
     refine rN ?_
     refine oT 16 (bA 18 131071) HT_.out fun K hK => ?_
     obtain ⟨gs, fg⟩ := bxA ak
     have dy := ag.out
     have dz := ai.out
     have dA := aq.out
     have dB := au.out
     have dC := ax.out
     have dD := ap.out
     have gt : w25.cell? ⟨ae, 1, none⟩ = some (.string (⟨#[]⟩ : ByteArray)) := cT ak 1
     have fh := blk_frozen ak.out 1
     have dE := ag.out
     have dF := ai.out
     have dG := aq.out
     have dH := au.out
     have dI := ax.out
     have dJ := ap.out
     have gu : w25.cell? ⟨ae, 2, none⟩ = some (.string (⟨#[]⟩ : ByteArray)) := cT ak 2
     have fi := blk_frozen ak.out 2
     have dK := ag.out
     have dL := ai.out
     have dM := aq.out
     have dN := au.out
     have dP := ax.out
     have dQ := ap.out
     refine skip_ (w1 := ?_) (by rfl) rfl ?_ ?_
     rotate_left
     ·go_simp
      rfl
     refine hK.out _ _ kCl (fun hHeld => ?_)
     clear hK K
     refine oT 17 (bA 18 262143) HT_.out fun K hK => ?_
     obtain ⟨gv, fj⟩ := bxA al
     have dR := ah.out
     have dS := aj.out
     have dU := ap.out
     have dV := av.out
     have dW := ay.out
     have dX := aq.out
     have gw : w25.cell? ⟨af, 1, none⟩ = some (.string (⟨#[]⟩ : ByteArray)) := cT al 1
     have fk := blk_frozen al.out 1
     have dY := ah.out
     have dZ := aj.out
     have d0 := ap.out
     have d1 := av.out
     have d2 := ay.out
     have d3 := aq.out
     have gx : w25.cell? ⟨af, 2, none⟩ = some (.string (⟨#[]⟩ : ByteArray)) := cT al 2
     have fl := blk_frozen al.out 2
     have d4 := ah.out
     have d5 := aj.out
     have d6 := ap.out
     have d7 := av.out
     have d8 := ay.out
     have d9 := aq.out
     refine skip_ (w1 := ?_) (by rfl) rfl ?_ ?_
     rotate_left
     ·go_simp
      rfl
     refine hK.out _ _ kCl (fun hHeld => ?_)
     clear hK K
     refine done_ (done_of HT_.out rfK) ?_
     have fm := au.out
     have fn := ag.out
     have fo := ax.out
     have fp := ai.out
     have fq := ap.out
     have fr := aq.out
     obtain ⟨d_, ea, eb, ec, ed, ee⟩ := bxC ak
     have fs := av.out
     have ft := ah.out
     have fu := ay.out
     have fv := aj.out
     obtain ⟨ef, eg, eh, ei, ej, ek⟩ := bxC al
     try go_wp2
     obtain ⟨w39, hW_⟩ : ∃ W_, ((((((w25.setCell ⟨ae, 0, none⟩ (.string aA)).setCell ⟨ae, 1, none⟩ (.string aB)).setCell ⟨ae, 2, none⟩ (.string aE)).setCell ⟨af, 0, none⟩ (.string az)).setCell ⟨af, 1, none⟩ (.string aC)).setCell ⟨af, 2, none⟩ (.string aF)) = W_ := ⟨_, rfl⟩
     have n0_ : Aside0 (Kd.R Kd.string 9 w39 w.heap.size (fun k_ => some k_ ≠ (.slice aI aw.length aH : Value).ownBlock) (.slice Ao9 ar.length co9) ar) := ⟨by rw [← hW_]; (with_reducible repeat (first | apply Kd.R_alloc | apply Kd.R_drewN | apply Kd.R_drew)); exact Kd.R_mono (Kd.R_far (p := ⟨af, 2, none⟩) (Kd.R_far (p := ⟨af, 1, none⟩) (Kd.R_far (p := ⟨af, 0, none⟩) (Kd.R_far (p := ⟨ae, 2, none⟩) (Kd.R_far (p := ⟨ae, 1, none⟩) (Kd.R_far (p := ⟨ae, 0, none⟩) (Kd.R_types (Kd.R_types ac.out ak.out (by decide)) al.out (by decide)) (fun _ hk => hk.1.2) (.string aA)) (fun _ hk => hk.1.2) (.string aB)) (fun _ hk => hk.1.2) (.string aE)) (fun _ hk => hk.2) (.string az)) (fun _ hk => hk.2) (.string aC)) (fun _ hk => hk.2) (.string aF)) (fun _ hk => hk.1.1)⟩
     have n1_ : Aside0 (Kd.R Kd.string 9 w39 w.heap.size (fun k_ => some k_ ≠ (.slice Ao9 ar.length co9 : Value).ownBlock) (.slice aI aw.length aH) aw) := ⟨by rw [← hW_]; (with_reducible repeat (first | apply Kd.R_alloc | apply Kd.R_drewN | apply Kd.R_drew)); exact Kd.R_mono (Kd.R_far (p := ⟨af, 2, none⟩) (Kd.R_far (p := ⟨af, 1, none⟩) (Kd.R_far (p := ⟨af, 0, none⟩) (Kd.R_far (p := ⟨ae, 2, none⟩) (Kd.R_far (p := ⟨ae, 1, none⟩) (Kd.R_far (p := ⟨ae, 0, none⟩) (Kd.R_types (Kd.R_types ad.out ak.out (by decide)) al.out (by decide)) (fun _ hk => hk.1.2) (.string aA)) (fun _ hk => hk.1.2) (.string aB)) (fun _ hk => hk.1.2) (.string aE)) (fun _ hk => hk.2) (.string az)) (fun _ hk => hk.2) (.string aC)) (fun _ hk => hk.2) (.string aF)) (fun _ hk => hk.1.1)⟩
     have n2_ : Aside0 (w39.heap[ao]? = some (.cells #[.string aA, .string aB, .string aE, .slice Ao9 ar.length co9] 98 (0, 0))) := ⟨by rw [← hW_]; exact kBk⟩
     have n3_ : Aside0 (w39.heap[an]? = some (.cells #[.string az, .string aC, .string aF, .slice aI aw.length aH] 98 (0, 0))) := ⟨by rw [← hW_]; exact kBk⟩
     have n4_ : Aside0 (w39.heap[ae]? = some (.cells #[.string aA, .string aB, .string aE] 101 (0, 0))) := ⟨by rw [← hW_]; exact kBk⟩
     have n5_ : Aside0 (w39.heap[af]? = some (.cells #[.string az, .string aC, .string aF] 101 (0, 0))) := ⟨by rw [← hW_]; exact kBk⟩
     have n6_ : Aside0 (Below w.heap.size w w39) := ⟨by rw [← hW_]; exact eTx HB.out⟩
     rw [hW_]
     clear hW_
     have ac := n0_
     have ad := n1_
     have aa := n2_
     have ab := n3_
     have ak := n4_
     have al := n5_
     have HB := n6_
     clear n0_ n1_ n2_ n3_ n4_ n5_ n6_
     replace ac := am (Kd.R_drew ac.out)
     replace ad := am (Kd.R_drew ad.out)
     replace aa := am (blk_drew aa.out)
     replace ab := am (blk_drew ab.out)
     replace ak := am (blk_drew ak.out)
     replace al := am (blk_drew al.out)
     replace HB := am (below_drew1 HB.out)
     refine start_ (n := 19) (S := fun w' => w'.cell? ⟨ae, 0, none⟩ = some (.string aA) ∧ w'.cell? ⟨ae, 1, none⟩ = some (.string aB) ∧ w'.cell? ⟨ae, 2, none⟩ = some (.string aE) ∧ w'.cell? ⟨af, 0, none⟩ = some (.string az) ∧ w'.cell? ⟨af, 1, none⟩ = some (.string aC) ∧ w'.cell? ⟨af, 2, none⟩ = some (.string aF)) (ds := []) (bA 19 0) rfK rfl rfK ⟨cT ak 0, cT ak 1, cT ak 2, cT al 0, cT al 1, cT al 2⟩ (fun hHeld => ?_); refine with_tabW version_Cmp.tab7 version_Cmp.bits7 (fun HT_ HW_ => ?_)
     generalize w39.drew = w40 at ac ad aa ab ak al HB hHeld ⊢
     refine pT 0 47 (bA 19 1) HT_.out ?_
     refine pT 2 49 (bA 19 5) HT_.out ?_
     refine pT 5 52 (bA 19 37) HT_.out ?_
     refine pT 7 54 (bA 19 165) HT_.out ?_
     refine pT 10 57 (bA 19 1189) HT_.out ?_
     refine pT 12 59 (bA 19 5285) HT_.out ?_
     refine tT 1 48 (bA 19 5287) HT_.out HW_.out hHeld ?_ (hy := by rintro w' ⟨s0, s1, s2, s3, s4, s5⟩; go_simp; with_reducible rfl)
     refine tT 3 50 (bA 19 5295) HT_.out HW_.out hHeld ?_ (hy := by rintro w' ⟨s0, s1, s2, s3, s4, s5⟩; go_simp; with_reducible rfl)
     refine tT 6 53 (bA 19 5359) HT_.out HW_.out hHeld ?_ (hy := by rintro w' ⟨s0, s1, s2, s3, s4, s5⟩; go_simp; with_reducible rfl)
     refine tT 8 55 (bA 19 5615) HT_.out HW_.out hHeld ?_ (hy := by rintro w' ⟨s0, s1, s2, s3, s4, s5⟩; go_simp; with_reducible rfl)
     refine tT 11 58 (bA 19 7663) HT_.out HW_.out hHeld ?_ (hy := by rintro w' ⟨s0, s1, s2, s3, s4, s5⟩; go_simp; with_reducible rfl)
     refine tT 13 60 (bA 19 15855) HT_.out HW_.out hHeld ?_ (hy := by rintro w' ⟨s0, s1, s2, s3, s4, s5⟩; go_simp; with_reducible rfl)
     refine oT 4 (bA 19 15871) HT_.out fun K hK => ?_
     refine gS Tryz.func67 #[.string aA, .string az] ?_
     with_reducible refine (version_numbers.calls kj4 aA az a6 _ A18.out).mono ?_
     rintro e w41 ⟨rfl, hb⟩
     refine ⟨_, rfl, ?_⟩
     replace ac := am (rB ac.out hb)
     replace ad := am (rB ad.out hb)
     replace aa := am (bB aa.out hb)
     replace ab := am (bB ab.out hb)
     replace ak := am (bB ak.out hb)
     replace al := am (bB al.out hb)
     replace HB := am (sTx HB.out hb)
     refine hK.out _ _ ⟨cT ak 0, cT ak 1, cT ak 2, cT al 0, cT al 1, cT al 2⟩ (fun hHeld => ?_)
     clear hK K
     refine mN 51 ?_
     refine oT 9 (bA 19 16383) HT_.out fun K hK => ?_
     refine gS Tryz.func67 #[.string aB, .string aC] ?_
     with_reducible refine (version_numbers.calls kj4 aB aC aW _ A19.out).mono ?_
     rintro e w42 ⟨rfl, hb⟩
     refine ⟨_, rfl, ?_⟩
     replace ac := am (rB ac.out hb)
     replace ad := am (rB ad.out hb)
     replace aa := am (bB aa.out hb)
     replace ab := am (bB ab.out hb)
     replace ak := am (bB ak.out hb)
     replace al := am (bB al.out hb)
     replace HB := am (sTx HB.out hb)
     refine hK.out _ _ ⟨cT ak 0, cT ak 1, cT ak 2, cT al 0, cT al 1, cT al 2⟩ (fun hHeld => ?_)
     clear hK K
     refine mN 56 ?_
     refine oT 14 (bA 19 32767) HT_.out fun K hK => ?_
     refine gS Tryz.func67 #[.string aE, .string aF] ?_
     with_reducible refine (version_numbers.calls kj4 aE aF aV _ A20.out).mono ?_
     rintro e w43 ⟨rfl, hb⟩
     refine ⟨_, rfl, ?_⟩
     replace ac := am (rB ac.out hb)
     replace ad := am (rB ad.out hb)
     replace aa := am (bB aa.out hb)
     replace ab := am (bB ab.out hb)
     replace ak := am (bB ak.out hb)
     replace al := am (bB al.out hb)
     replace HB := am (sTx HB.out hb)
     refine hK.out _ _ ⟨cT ak 0, cT ak 1, cT ak 2, cT al 0, cT al 1, cT al 2⟩ (fun hHeld => ?_)
     clear hK K
     refine mN 61 ?_
     refine oT 15 (bA 19 65535) HT_.out fun K hK => ?_
     refine Kd.R_lit_step (Kd.int .i64) _ 3 ?hg (N := 62) ?hd (xs := ([a6, aW, aV] : List Int)) (inner := [.int .i64 a6, .int .i64 aW, .int .i64 aV]) (ok := fun _ => True) (okp := fun _ => True) ?hr ?hp (fun _ hk => hk) trivial (Below.refl _ _) (Nat.le_refl _) (by simp) ?_; (case hd => rfl); (case hg => rfl); (case hr => first | (go_simp; done) | (go_simp; rfl)); (case hp => exact (Reps.one (show Kd.M (Kd.int .i64) _ _ _ a6 [.int .i64 a6] from rfl) (Reps.one (show Kd.M (Kd.int .i64) _ _ _ aW [.int .i64 aW] from rfl) (Reps.one (show Kd.M (Kd.int .i64) _ _ _ aV [.int .i64 aV] from rfl) (Reps.none _ _)))))
     intro gy w44 ho45 hb hg_ hnew_
     clear hg_ hnew_
     (first | rw [← Ny212.out] at ho45 | (simp only [Int.reduceToNat] at ho45; rw [← Ny212.out] at ho45))
     replace ac := am (rB ac.out hb)
     replace ad := am (rB ad.out hb)
     have b0 := am (Kd.R_lower ho45 (below_size (eTx HB.out)))
     replace aa := am (bB aa.out hb)
     replace ab := am (bB ab.out hb)
     replace ak := am (bB ak.out hb)
     replace al := am (bB al.out hb)
     replace HB := am (sTx HB.out hb)
     clear hb ho45
     obtain ⟨eY, eZ, c_⟩ := Kd.R_slice b0.out
     (first | subst c_ | (injection c_ with f1_ f2_ f3_; have f4_ := f1_.symm; have f5_ := f3_.symm; clear f1_ f2_ f3_; subst f4_; subst f5_))
     refine hK.out _ _ ⟨cT ak 0, cT ak 1, cT ak 2, cT al 0, cT al 1, cT al 2⟩ (fun hHeld => ?_)
     clear hK K
     refine mN 62 ?_
     refine oT 16 (bA 19 131071) HT_.out fun K hK => ?_
     refine gS Tryz.func66 #[.slice eY cU.length eZ] ?_
     with_reducible refine (cmp_Or_int.calls kj4 _ _ cU aX _ (cW (Kd.R_reads' b0.out).2.2) ((Kd.R_reads' b0.out).2.1) A21.out).mono ?_
     rintro e w' ⟨rfl, ⟨nd, rfl⟩⟩
     refine ⟨_, rfl, ?_⟩
     refine hK.out _ _ ⟨cT ak 0, cT ak 1, cT ak 2, cT al 0, cT al 1, cT al 2⟩ (fun hHeld => ?_)
     clear hK K
     refine mN 63 ?_
     refine pT 17 4 (bA 19 262143) HT_.out ?_
     refine pT 18 5 (bA 19 524287) HT_.out ?_
     refine done_ (done_of HT_.out rfK) ?_
     try go_wp2
     go_ret2
     exact ⟨rfF, eTx HB.out⟩
    ·have bZ := Bool.eq_false_iff.mpr c17
     clear c17
     have cV := Aside0.mk H
     clear H
     try go_wp2
     replace ac := am (Kd.R_drew ac.out)
     replace ad := am (Kd.R_drew ad.out)
     replace aa := am (blk_drew aa.out)
     replace ab := am (blk_drew ab.out)
     replace HB := am (below_drew1 HB.out)
     refine start_ (n := 18) (S := fun w' => w'.cell? ⟨ao, 0, none⟩ = some (.string aA) ∧ w'.cell? ⟨ao, 1, none⟩ = some (.string aB) ∧ w'.cell? ⟨ao, 2, none⟩ = some (.string aE) ∧ w'.cell? ⟨ao, 3, none⟩ = some (.slice Ao9 ar.length co9) ∧ w'.cell? ⟨an, 0, none⟩ = some (.string az) ∧ w'.cell? ⟨an, 1, none⟩ = some (.string aC) ∧ w'.cell? ⟨an, 2, none⟩ = some (.string aF) ∧ w'.cell? ⟨an, 3, none⟩ = some (.slice aI aw.length aH)) (ds := []) (bA 18 0) rfK rfl rfK ⟨cT aa 0, cT aa 1, cT aa 2, cT aa 3, cT ab 0, cT ab 1, cT ab 2, cT ab 3⟩ (fun hHeld => ?_); refine with_tabW version_Cmp.tab5 version_Cmp.bits5 (fun HT_ HW_ => ?_)
     generalize wc.drew = w48 at ac ad aa ab HB hHeld ⊢
     refine pT 0 30 (bA 18 1) HT_.out ?_
     refine pT 2 32 (bA 18 5) HT_.out ?_
     refine pT 4 34 (bA 18 21) HT_.out ?_
     refine pT 7 37 (bA 18 149) HT_.out ?_
     refine pT 9 39 (bA 18 661) HT_.out ?_
     refine pT 11 41 (bA 18 2709) HT_.out ?_
     refine tT 1 31 (bA 18 2711) HT_.out HW_.out hHeld ?_ (hy := by rintro w' ⟨s0, s1, s2, s3, s4, s5, s6, s7⟩; go_simp; with_reducible rfl)
     refine tT 3 33 (bA 18 2719) HT_.out HW_.out hHeld ?_ (hy := by rintro w' ⟨s0, s1, s2, s3, s4, s5, s6, s7⟩; go_simp; with_reducible rfl)
     refine tT 5 35 (bA 18 2751) HT_.out HW_.out hHeld ?_ (hy := by rintro w' ⟨s0, s1, s2, s3, s4, s5, s6, s7⟩; go_simp; with_reducible rfl)
     refine pT 6 36 (bA 18 2815) HT_.out ?_
     refine tT 8 38 (bA 18 3071) HT_.out HW_.out hHeld ?_ (hy := by rintro w' ⟨s0, s1, s2, s3, s4, s5, s6, s7⟩; go_simp; with_reducible rfl)
     refine tT 10 40 (bA 18 4095) HT_.out HW_.out hHeld ?_ (hy := by rintro w' ⟨s0, s1, s2, s3, s4, s5, s6, s7⟩; go_simp; with_reducible rfl)
     refine tT 12 42 (bA 18 8191) HT_.out HW_.out hHeld ?_ (hy := by rintro w' ⟨s0, s1, s2, s3, s4, s5, s6, s7⟩; go_simp; with_reducible rfl)
     refine pT 13 43 (bA 18 16383) HT_.out ?_
     refine join_ (σ := Nat × Nat) 2 (bA 18 65535) (fun s_ => [(10, .pointer (some ⟨s_.1, 0, none⟩)), (11, .pointer (some ⟨s_.2, 0, none⟩))]) (fun s_ w' => (w'.cell? ⟨ao, 0, none⟩ = some (.string aA) ∧ w'.cell? ⟨ao, 1, none⟩ = some (.string aB) ∧ w'.cell? ⟨ao, 2, none⟩ = some (.string aE) ∧ w'.cell? ⟨ao, 3, none⟩ = some (.slice Ao9 ar.length co9) ∧ w'.cell? ⟨an, 0, none⟩ = some (.string az) ∧ w'.cell? ⟨an, 1, none⟩ = some (.string aC) ∧ w'.cell? ⟨an, 2, none⟩ = some (.string aF) ∧ w'.cell? ⟨an, 3, none⟩ = some (.slice aI aw.length aH)) ∧ (Kd.R Kd.string 9 w' w.heap.size (fun k_ => some k_ ≠ (.slice aI aw.length aH : Value).ownBlock) (.slice Ao9 ar.length co9) ar) ∧ (Kd.R Kd.string 9 w' w.heap.size (fun k_ => some k_ ≠ (.slice Ao9 ar.length co9 : Value).ownBlock) (.slice aI aw.length aH) aw) ∧ (w'.heap[ao]? = some (.cells #[.string aA, .string aB, .string aE, .slice Ao9 ar.length co9] 98 (0, 0))) ∧ (w'.heap[an]? = some (.cells #[.string az, .string aC, .string aF, .slice aI aw.length aH] 98 (0, 0))) ∧ (w'.heap[s_.1]? = some (.cells #[.string (⟨#[]⟩ : ByteArray), .string (⟨#[]⟩ : ByteArray), .string (⟨#[]⟩ : ByteArray)] 101 (0, 0))) ∧ (w'.heap[s_.2]? = some (.cells #[.string (⟨#[]⟩ : ByteArray), .string (⟨#[]⟩ : ByteArray), .string (⟨#[]⟩ : ByteArray)] 101 (0, 0))) ∧ (w.heap.size ≤ s_.1) ∧ (w.heap.size ≤ s_.1) ∧ (ao ≠ s_.1) ∧ (s_.1 ≠ ao) ∧ (an ≠ s_.1) ∧ (s_.1 ≠ an) ∧ (s_.2 ≠ s_.1) ∧ (s_.1 ≠ s_.2) ∧ (w.heap.size ≤ s_.2) ∧ (w.heap.size ≤ s_.2) ∧ (ao ≠ s_.2) ∧ (s_.2 ≠ ao) ∧ (an ≠ s_.2) ∧ (s_.2 ≠ an) ∧ (Below w.heap.size w w')) ?_ ?_
     rotate_left
     ·intro hCont
      refine dT (some 10) (some 11) 14 15 (bA 18 32767) (bA 18 49151) HT_.out (fun K hK => ?_) (fun K hK => ?_)
      ·skip
       refine yBx 10 101 #[.string (⟨#[]⟩ : ByteArray), .string (⟨#[]⟩ : ByteArray), .string (⟨#[]⟩ : ByteArray)] ?_
       intro ae hg w49 hbox hb
       replace ac := am (rB ac.out hb)
       replace ad := am (rB ad.out hb)
       have ak := am (hbox)
       have aY := am ((gTx hg HB.out))
       have aZ := am ((gTx hg HB.out))
       have ag := am ((nT aa.out hg))
       have au := am ((mT aa.out hg))
       have ai := am ((nT ab.out hg))
       have ax := am ((mT ab.out hg))
       replace aa := am (bB aa.out hb)
       replace ab := am (bB ab.out hb)
       replace HB := am (sTx HB.out hb)
       clear hb hbox hg
       refine hK.out _ _ ⟨cT aa 0, cT aa 1, cT aa 2, cT aa 3, cT ab 0, cT ab 1, cT ab 2, cT ab 3⟩ (fun hHeld => ?_)
       clear hK K
       refine mN 10 ?_
       refine oT 15 (bA 18 65535) HT_.out fun K hK => ?_
       refine yBx 11 101 #[.string (⟨#[]⟩ : ByteArray), .string (⟨#[]⟩ : ByteArray), .string (⟨#[]⟩ : ByteArray)] ?_
       intro af hg w50 hbox hb
       replace ac := am (rB ac.out hb)
       replace ad := am (rB ad.out hb)
       have al := am (hbox)
       have a2 := am ((gTx hg HB.out))
       have a3 := am ((gTx hg HB.out))
       have ah := am ((nT aa.out hg))
       have av := am ((mT aa.out hg))
       have aj := am ((nT ab.out hg))
       have ay := am ((mT ab.out hg))
       have ap := am ((nT ak.out hg))
       have aq := am ((mT ak.out hg))
       replace aa := am (bB aa.out hb)
       replace ab := am (bB ab.out hb)
       replace ak := am (bB ak.out hb)
       replace HB := am (sTx HB.out hb)
       clear hb hbox hg
       refine hK.out _ _ ⟨cT aa 0, cT aa 1, cT aa 2, cT aa 3, cT ab 0, cT ab 1, cT ab 2, cT ab 3⟩ (fun hHeld => ?_)
       clear hK K
       refine mN 11 ?_
       exact norm_ rfQ (hCont (ae, af) _ ⟨hHeld, (rT ac.out), (rT ad.out), (bT aa.out), (bT ab.out), (bT ak.out), (bT al.out), aY.out, aZ.out, ag.out, au.out, ai.out, ax.out, aq.out, ap.out, a2.out, a3.out, ah.out, av.out, aj.out, ay.out, (eTx HB.out)⟩)
      ·skip
       refine yBx 11 101 #[.string (⟨#[]⟩ : ByteArray), .string (⟨#[]⟩ : ByteArray), .string (⟨#[]⟩ : ByteArray)] ?_
       intro af hg w49 hbox hb
       replace ac := am (rB ac.out hb)
       replace ad := am (rB ad.out hb)
       have al := am (hbox)
       have a2 := am ((gTx hg HB.out))
       have a3 := am ((gTx hg HB.out))
       have ah := am ((nT aa.out hg))
       have av := am ((mT aa.out hg))
       have aj := am ((nT ab.out hg))
       have ay := am ((mT ab.out hg))
       replace aa := am (bB aa.out hb)
       replace ab := am (bB ab.out hb)
       replace HB := am (sTx HB.out hb)
       clear hb hbox hg
       refine hK.out _ _ ⟨cT aa 0, cT aa 1, cT aa 2, cT aa 3, cT ab 0, cT ab 1, cT ab 2, cT ab 3⟩ (fun hHeld => ?_)
       clear hK K
       refine mN 11 ?_
       refine oT 14 (bA 18 65535) HT_.out fun K hK => ?_
       refine yBx 10 101 #[.string (⟨#[]⟩ : ByteArray), .string (⟨#[]⟩ : ByteArray), .string (⟨#[]⟩ : ByteArray)] ?_
       intro ae hg w50 hbox hb
       replace ac := am (rB ac.out hb)
       replace ad := am (rB ad.out hb)
       have ak := am (hbox)
       have aY := am ((gTx hg HB.out))
       have aZ := am ((gTx hg HB.out))
       have ag := am ((nT aa.out hg))
       have au := am ((mT aa.out hg))
       have ai := am ((nT ab.out hg))
       have ax := am ((mT ab.out hg))
       have aq := am ((nT al.out hg))
       have ap := am ((mT al.out hg))
       replace aa := am (bB aa.out hb)
       replace ab := am (bB ab.out hb)
       replace al := am (bB al.out hb)
       replace HB := am (sTx HB.out hb)
       clear hb hbox hg
       refine hK.out _ _ ⟨cT aa 0, cT aa 1, cT aa 2, cT aa 3, cT ab 0, cT ab 1, cT ab 2, cT ab 3⟩ (fun hHeld => ?_)
       clear hK K
       refine mN 10 ?_
       exact norm_ rfQ (hCont (ae, af) _ ⟨hHeld, (rT ac.out), (rT ad.out), (bT aa.out), (bT ab.out), (bT ak.out), (bT al.out), aY.out, aZ.out, ag.out, au.out, ai.out, ax.out, aq.out, ap.out, a2.out, a3.out, ah.out, av.out, aj.out, ay.out, (eTx HB.out)⟩)
     rintro ⟨ae, af⟩ w51 ⟨hS_, h0_, h1_, h2_, h3_, h4_, h5_, h6_, h7_, h8_, h9_, h10_, h11_, h12_, h13_, h14_, h15_, h16_, h17_, h18_, h19_, h20_⟩
     replace ac : Aside0 (Kd.R Kd.string 9 w51 w.heap.size (fun k_ => some k_ ≠ (.slice aI aw.length aH : Value).ownBlock) (.slice Ao9 ar.length co9) ar) := ⟨h0_⟩
     replace ad : Aside0 (Kd.R Kd.string 9 w51 w.heap.size (fun k_ => some k_ ≠ (.slice Ao9 ar.length co9 : Value).ownBlock) (.slice aI aw.length aH) aw) := ⟨h1_⟩
     replace aa : Aside0 (w51.heap[ao]? = some (.cells #[.string aA, .string aB, .string aE, .slice Ao9 ar.length co9] 98 (0, 0))) := ⟨h2_⟩
     replace ab : Aside0 (w51.heap[an]? = some (.cells #[.string az, .string aC, .string aF, .slice aI aw.length aH] 98 (0, 0))) := ⟨h3_⟩
     have ak : Aside0 (w51.heap[ae]? = some (.cells #[.string (⟨#[]⟩ : ByteArray), .string (⟨#[]⟩ : ByteArray), .string (⟨#[]⟩ : ByteArray)] 101 (0, 0))) := ⟨h4_⟩
     have al : Aside0 (w51.heap[af]? = some (.cells #[.string (⟨#[]⟩ : ByteArray), .string (⟨#[]⟩ : ByteArray), .string (⟨#[]⟩ : ByteArray)] 101 (0, 0))) := ⟨h5_⟩
     have aY : Aside0 (w.heap.size ≤ ae) := ⟨h6_⟩
     have aZ : Aside0 (w.heap.size ≤ ae) := ⟨h7_⟩
     have ag : Aside0 (ao ≠ ae) := ⟨h8_⟩
     have au : Aside0 (ae ≠ ao) := ⟨h9_⟩
     have ai : Aside0 (an ≠ ae) := ⟨h10_⟩
     have ax : Aside0 (ae ≠ an) := ⟨h11_⟩
     have aq : Aside0 (af ≠ ae) := ⟨h12_⟩
     have ap : Aside0 (ae ≠ af) := ⟨h13_⟩
     have a2 : Aside0 (w.heap.size ≤ af) := ⟨h14_⟩
     have a3 : Aside0 (w.heap.size ≤ af) := ⟨h15_⟩
     have ah : Aside0 (ao ≠ af) := ⟨h16_⟩
     have av : Aside0 (af ≠ ao) := ⟨h17_⟩
     have aj : Aside0 (an ≠ af) := ⟨h18_⟩
     have ay : Aside0 (af ≠ an) := ⟨h19_⟩
     replace HB : Aside0 (Below w.heap.size w w51) := ⟨h20_⟩
     clear h0_ h1_ h2_ h3_ h4_ h5_ h6_ h7_ h8_ h9_ h10_ h11_ h12_ h13_ h14_ h15_ h16_ h17_ h18_ h19_ h20_
     have hHeld := hS_
     (try dsimp only at hHeld)
     refine rN ?_
     refine oT 16 (bA 18 131071) HT_.out fun K hK => ?_
     obtain ⟨gz, fw⟩ := bxA ak
     have el := ag.out
     have em := ai.out
     have en := aq.out
     have eo := au.out
     have ep := ax.out
     have eq := ap.out
     have gA : w51.cell? ⟨ae, 1, none⟩ = some (.string (⟨#[]⟩ : ByteArray)) := cT ak 1
     have fx := blk_frozen ak.out 1
     have er := ag.out
     have es := ai.out
     have et := aq.out
     have eu := au.out
     have ev := ax.out
     have ew := ap.out
     have gB : w51.cell? ⟨ae, 2, none⟩ = some (.string (⟨#[]⟩ : ByteArray)) := cT ak 2
     have fy := blk_frozen ak.out 2
     have ex := ag.out
     have ey := ai.out
     have ez := aq.out
     have eA := au.out
     have eB := ax.out
     have eC := ap.out
     refine skip_ (w1 := ?_) (by rfl) rfl ?_ ?_
     rotate_left
     ·go_simp
      rfl
     refine hK.out _ _ kCl (fun hHeld => ?_)
     clear hK K
     refine oT 17 (bA 18 262143) HT_.out fun K hK => ?_
     obtain ⟨gC, fz⟩ := bxA al
     have eD := ah.out
     have eE := aj.out
     have eF := ap.out
     have eG := av.out
     have eH := ay.out
     have eI := aq.out
     have gD : w51.cell? ⟨af, 1, none⟩ = some (.string (⟨#[]⟩ : ByteArray)) := cT al 1
     have fA := blk_frozen al.out 1
     have eJ := ah.out
     have eK := aj.out
     have eL := ap.out
     have eM := av.out
     have eN := ay.out
     have eO := aq.out
     have gE : w51.cell? ⟨af, 2, none⟩ = some (.string (⟨#[]⟩ : ByteArray)) := cT al 2
     have fC := blk_frozen al.out 2
     have eP := ah.out
     have eQ := aj.out
     have eR := ap.out
     have eS := av.out
     have eV := ay.out
     have eW := aq.out
     refine skip_ (w1 := ?_) (by rfl) rfl ?_ ?_
     rotate_left
     ·go_simp
      rfl
     refine hK.out _ _ kCl (fun hHeld => ?_)
     clear hK K
     refine done_ (done_of HT_.out rfK) ?_
     have fD := au.out
     have fE := ag.out
     have fF := ax.out
     have fG := ai.out
     have fH := ap.out
     have fI := aq.out
     obtain ⟨bi, bj, bk, bl, bm, bo⟩ := bxC ak
     have fJ := av.out
     have fK := ah.out
     have fL := ay.out
     have fM := aj.out
     obtain ⟨bp, bq, br, bs, bt, bu⟩ := bxC al
     go_upto_region 8 with (fail)
     go_cut [73] (fun v73 wc => ∃ (kq : Nat) (a_ : Bool), v73 = .bool a_ ∧ Aside0 (version_Cmp.j1 kq a_ aA aB aE ar az aC aF aw = some (r1, r2)) ∧ Aside0 (kq ≤ kj4) ∧ Aside0 (Kd.R Kd.string 9 wc w.heap.size (fun k_ => some k_ ≠ ((.slice aI aw.length aH) : Value).ownBlock) (.slice Ao9 ar.length co9) ar) ∧ Aside0 (Kd.R Kd.string 9 wc w.heap.size (fun k_ => some k_ ≠ ((.slice Ao9 ar.length co9) : Value).ownBlock) (.slice aI aw.length aH) aw) ∧ Aside0 (wc.heap[ao]? = some (.cells #[.string aA, .string aB, .string aE, (.slice Ao9 ar.length co9)] 98 (0, 0))) ∧ Aside0 (wc.heap[an]? = some (.cells #[.string az, .string aC, .string aF, (.slice aI aw.length aH)] 98 (0, 0))) ∧ Aside0 (wc.heap[ae]? = some (.cells #[.string aA, .string aB, .string aE] 101 (0, 0))) ∧ Aside0 (wc.heap[af]? = some (.cells #[.string az, .string aC, .string aF] 101 (0, 0))) ∧ Aside0 (Below w.heap.size w wc))
     case first =>
      have H := cV.out
      clear cV
      replace H := ifP H; rcases H with ⟨c65, H⟩ | ⟨c65, H⟩
      ·have a8 := beq_iff_eq.mpr c65
       have b1 := bne_eq_false_iff_eq.mpr c65
       clear c65
       (first | rw [a8] | (simp only [i64_w, i32_w]; rw [a8]) | skip)
       have H' := Aside0.mk H
       clear H
       have fN := aG.out
       have fO := aL.out
       have fP := ag.out
       have fQ := au.out
       have fR := ah.out
       have fS := av.out
       obtain ⟨bv, bw, bx, bz, bC, bD, bE, bF⟩ := bxD aa
       go_wp2
       go_meet
       case rel => exact ⟨_, (true), rfG, H', ⟨by have := HJ4.out; first | omega | exact Nat.le_refl _⟩, ⟨by (with_reducible repeat (first | apply Kd.R_alloc | apply Kd.R_drewN | apply Kd.R_drew)); exact Kd.R_mono (Kd.R_far (p := ⟨af, 2, none⟩) (Kd.R_far (p := ⟨af, 1, none⟩) (Kd.R_far (p := ⟨af, 0, none⟩) (Kd.R_far (p := ⟨ae, 2, none⟩) (Kd.R_far (p := ⟨ae, 1, none⟩) (Kd.R_far (p := ⟨ae, 0, none⟩) (Kd.R_types (Kd.R_types ac.out ak.out (by decide)) al.out (by decide)) (fun _ hk => hk.1.2) (.string aA)) (fun _ hk => hk.1.2) (.string aB)) (fun _ hk => hk.1.2) (.string aE)) (fun _ hk => hk.2) (.string az)) (fun _ hk => hk.2) (.string aC)) (fun _ hk => hk.2) (.string aF)) (fun _ hk => hk.1.1)⟩, ⟨by (with_reducible repeat (first | apply Kd.R_alloc | apply Kd.R_drewN | apply Kd.R_drew)); exact Kd.R_mono (Kd.R_far (p := ⟨af, 2, none⟩) (Kd.R_far (p := ⟨af, 1, none⟩) (Kd.R_far (p := ⟨af, 0, none⟩) (Kd.R_far (p := ⟨ae, 2, none⟩) (Kd.R_far (p := ⟨ae, 1, none⟩) (Kd.R_far (p := ⟨ae, 0, none⟩) (Kd.R_types (Kd.R_types ad.out ak.out (by decide)) al.out (by decide)) (fun _ hk => hk.1.2) (.string aA)) (fun _ hk => hk.1.2) (.string aB)) (fun _ hk => hk.1.2) (.string aE)) (fun _ hk => hk.2) (.string az)) (fun _ hk => hk.2) (.string aC)) (fun _ hk => hk.2) (.string aF)) (fun _ hk => hk.1.1)⟩, ⟨kBk⟩, ⟨kBk⟩, ⟨kBk⟩, ⟨kBk⟩, ⟨eTx HB.out⟩⟩
      ·have a8 := beq_eq_false_iff_ne.mpr c65
       have b1 := bne_iff_ne.mpr c65
       have cI : ¬ (ar = []) := fun h_ => c65 (by rw [h_]; rfl)
       (first | rw [a8] | (simp only [i64_w, i32_w]; rw [a8]) | skip)
       have H' := Aside0.mk H
       clear H
       have fT := aG.out
       have fU := aL.out
       have fV := ag.out
       have fW := au.out
       have fX := ah.out
       have fY := av.out
       obtain ⟨bG, bH, bI, bJ, bK, bL, bM, bN⟩ := bxD aa
       have fZ := ai.out
       have f0 := ax.out
       have f1 := aj.out
       have f2 := ay.out
       obtain ⟨bO, bP, bQ, bR, bS, bU, bV, bW⟩ := bxD ab
       go_wp2
       go_meet
       case rel => exact ⟨_, (((aw.length : Int) == 0)), rfG, H', ⟨by have := HJ4.out; first | omega | exact Nat.le_refl _⟩, ⟨by (with_reducible repeat (first | apply Kd.R_alloc | apply Kd.R_drewN | apply Kd.R_drew)); exact Kd.R_mono (Kd.R_far (p := ⟨af, 2, none⟩) (Kd.R_far (p := ⟨af, 1, none⟩) (Kd.R_far (p := ⟨af, 0, none⟩) (Kd.R_far (p := ⟨ae, 2, none⟩) (Kd.R_far (p := ⟨ae, 1, none⟩) (Kd.R_far (p := ⟨ae, 0, none⟩) (Kd.R_types (Kd.R_types ac.out ak.out (by decide)) al.out (by decide)) (fun _ hk => hk.1.2) (.string aA)) (fun _ hk => hk.1.2) (.string aB)) (fun _ hk => hk.1.2) (.string aE)) (fun _ hk => hk.2) (.string az)) (fun _ hk => hk.2) (.string aC)) (fun _ hk => hk.2) (.string aF)) (fun _ hk => hk.1.1)⟩, ⟨by (with_reducible repeat (first | apply Kd.R_alloc | apply Kd.R_drewN | apply Kd.R_drew)); exact Kd.R_mono (Kd.R_far (p := ⟨af, 2, none⟩) (Kd.R_far (p := ⟨af, 1, none⟩) (Kd.R_far (p := ⟨af, 0, none⟩) (Kd.R_far (p := ⟨ae, 2, none⟩) (Kd.R_far (p := ⟨ae, 1, none⟩) (Kd.R_far (p := ⟨ae, 0, none⟩) (Kd.R_types (Kd.R_types ad.out ak.out (by decide)) al.out (by decide)) (fun _ hk => hk.1.2) (.string aA)) (fun _ hk => hk.1.2) (.string aB)) (fun _ hk => hk.1.2) (.string aE)) (fun _ hk => hk.2) (.string az)) (fun _ hk => hk.2) (.string aC)) (fun _ hk => hk.2) (.string aF)) (fun _ hk => hk.1.1)⟩, ⟨kBk⟩, ⟨kBk⟩, ⟨kBk⟩, ⟨kBk⟩, ⟨eTx HB.out⟩⟩
     case rest =>
      clear cV
      obtain ⟨kq, a_, rfl, HA, da, ac, ad, aa, ab, ak, al, HB⟩ := hcut
      cases kq with
      | zero => exact absurd HA.out (by simp [version_Cmp.j1])
      | succ kj46 =>
       have H := HA.out
       clear HA
       simp only [version_Cmp.j1] at H
       replace H := ifB H; rcases H with ⟨rfl, H⟩ | ⟨rfl, H⟩
       ·replace H := bnd H; obtain ⟨bX, A78, H⟩ := H
        replace H := prB H; obtain ⟨rfl, rfl⟩ := H
        have f3 := aL.out
        have f4 := aG.out
        have f5 := ai.out
        have f6 := ax.out
        have f7 := aj.out
        have f8 := ay.out
        obtain ⟨ca, cb, cc, cd, ce, cf, cg, ch⟩ := bxD ab
        have f9 := ag.out
        have f_ := au.out
        have ga := ah.out
        have gb := av.out
        obtain ⟨ci, cj, ck, cl, cm, cn, co, cp⟩ := bxD aa
        go_wp2_with (first | ((with_reducible refine gtC 68 ?_); refine xCz 80 Tryz.func68 (cmp_Compare_int.calls (aw.length : Int) (ar.length : Int) bX _ A78.out) fun nd => ?_))
        go_ret2
        exact ⟨rfF, eTx HB.out⟩
       ·obtain ⟨bg, bf⟩ : ∃ j_ : Int, (mn (ar.length : Int) (aw.length : Int)) = j_ := ⟨_, rfl⟩
        replace H : (version_Cmp.l0 kj46 bg 0 aA aB aE ar az aC aF aw) = some (r1, r2) := by first | (rw [bf] at H; exact H) | (simp only [bf] at H ⊢; exact H)
        have cX : (if (aw.length : Int) < (ar.length : Int) then (aw.length : Int) else (ar.length : Int)) = bg := bf
        (try (have cY := cX; simp only [Int.ofNat_lt] at cY))
        have H' := Aside0.mk H
        clear H
        have gc := aG.out
        have gd := aL.out
        have ge := ag.out
        have gf := au.out
        have gg := ah.out
        have gh := av.out
        obtain ⟨cq, cr, ct, cu, cv, cw, cx, cy⟩ := bxD aa
        have gi := ai.out
        have gj := ax.out
        have gl := aj.out
        have gm := ay.out
        obtain ⟨cz, cA, cB, cC, cD, cE, cF, cG⟩ := bxD ab
        go_wp2
        go_loopg [88] kj46 (fun kq v88 w' => ∃ (aD : Int), v88 = .int .i64 aD ∧ Aside0 (version_Cmp.l0 kq bg aD aA aB aE ar az aC aF aw = some (r1, r2)) ∧ Aside0 (kq ≤ kj46) ∧ Aside0 (Kd.R Kd.string 9 w' w.heap.size (fun k_ => some k_ ≠ ((.slice aI aw.length aH) : Value).ownBlock) (.slice Ao9 ar.length co9) ar) ∧ Aside0 (Kd.R Kd.string 9 w' w.heap.size (fun k_ => some k_ ≠ ((.slice Ao9 ar.length co9) : Value).ownBlock) (.slice aI aw.length aH) aw) ∧ Aside0 (w'.heap[ao]? = some (.cells #[.string aA, .string aB, .string aE, (.slice Ao9 ar.length co9)] 98 (0, 0))) ∧ Aside0 (w'.heap[an]? = some (.cells #[.string az, .string aC, .string aF, (.slice aI aw.length aH)] 98 (0, 0))) ∧ Aside0 (w'.heap[ae]? = some (.cells #[.string aA, .string aB, .string aE] 101 (0, 0))) ∧ Aside0 (w'.heap[af]? = some (.cells #[.string az, .string aC, .string aF] 101 (0, 0))) ∧ Aside0 (Below w.heap.size w w'))
        case atStart => exact ⟨(0), rfG, H', ⟨Nat.le_refl _⟩, ⟨rT ac.out⟩, ⟨rT ad.out⟩, ⟨bT aa.out⟩, ⟨bT ab.out⟩, ⟨bT ak.out⟩, ⟨bT al.out⟩, ⟨eTx HB.out⟩⟩
        case round =>
         clear H'
         obtain ⟨aD, rfl, HA, HK3, ac, ad, aa, ab, ak, al, HB⟩ := hrel
         cases gk with
         | zero => exact absurd HA.out (by simp [version_Cmp.l0])
         | succ k3 =>
          have H := HA.out
          clear HA
          simp only [version_Cmp.l0] at H
          replace H := ifP H; rcases H with ⟨c94, H⟩ | ⟨c94, H⟩
          ·have dc := decide_eq_true c94
           clear c94
           replace H := ifN H; obtain ⟨c95, H⟩ := H
           have gn := decide_eq_true c95
           clear c95
           replace H := ifN H; obtain ⟨c96, H⟩ := H
           have go := decide_eq_true c96
           clear c96
           replace H := ifN H; obtain ⟨c97, H⟩ := H
           have gp := decide_eq_true c97
           clear c97
           replace H := bnd H; obtain ⟨a7, A98, H⟩ := H
           replace H := ifP H; rcases H with ⟨c99, H⟩ | ⟨c99, H⟩
           ·have de := beq_iff_eq.mpr c99
            have df := bne_eq_false_iff_eq.mpr c99
            clear c99
            have H' := Aside0.mk H
            clear H
            try go_wp2
            replace ac := am (Kd.R_drew ac.out)
            replace ad := am (Kd.R_drew ad.out)
            replace aa := am (blk_drew aa.out)
            replace ab := am (blk_drew ab.out)
            replace ak := am (blk_drew ak.out)
            replace al := am (blk_drew al.out)
            replace HB := am (below_drew1 HB.out)
            have p217 : 0 ≤ (aD : Int) := of_decide_eq_true rfA
            have q217 : aD < (ar.length : Int) := of_decide_eq_true rfA
            obtain ⟨ad217, e217, a4⟩ := Kd.at_string (Kd.R_reads' ac.out).2.2 aD p217 q217
            cases e217
            replace p217 := eq_true p217
            replace q217 := eq_true q217
            have p218 : 0 ≤ (aD : Int) := of_decide_eq_true rfA
            have q218 : aD < (aw.length : Int) := of_decide_eq_true rfA
            obtain ⟨ad218, e218, a5⟩ := Kd.at_string (Kd.R_reads' ad.out).2.2 aD p218 q218
            cases e218
            replace p218 := eq_true p218
            replace q218 := eq_true q218
            refine start_ (n := 12) (S := fun w' => w'.cell? ⟨ao, 0, none⟩ = some (.string aA) ∧ w'.cell? ⟨ao, 1, none⟩ = some (.string aB) ∧ w'.cell? ⟨ao, 2, none⟩ = some (.string aE) ∧ w'.cell? ⟨ao, 3, none⟩ = some (.slice (some ad217) ar.length co9) ∧ w'.cell? ⟨an, 0, none⟩ = some (.string az) ∧ w'.cell? ⟨an, 1, none⟩ = some (.string aC) ∧ w'.cell? ⟨an, 2, none⟩ = some (.string aF) ∧ w'.cell? ⟨an, 3, none⟩ = some (.slice (some ad218) aw.length aH) ∧ w'.cell? (ad217.add (aD).toNat) = some (.string (rdOf ByteArray.empty ar aD)) ∧ w'.cell? (ad218.add (aD).toNat) = some (.string (rdOf ByteArray.empty aw aD))) (ds := []) (bA 12 0) rfK rfl rfK ⟨cT aa 0, cT aa 1, cT aa 2, cT aa 3, cT ab 0, cT ab 1, cT ab 2, cT ab 3, a4, a5⟩ (fun hHeld => ?_); refine with_tabW version_Cmp.tab13 version_Cmp.bits13 (fun HT_ HW_ => ?_)
            generalize wr.drew = gF at ac ad aa ab ak al HB a4 a5 hHeld ⊢
            refine pT 0 91 (bA 12 1) HT_.out ?_
            refine pT 2 93 (bA 12 5) HT_.out ?_
            refine pT 5 96 (bA 12 37) HT_.out ?_
            refine pT 7 98 (bA 12 165) HT_.out ?_
            refine tT 1 92 (bA 12 167) HT_.out HW_.out hHeld ?_ (hy := by rintro w' ⟨s0, s1, s2, s3, s4, s5, s6, s7, s8, s9⟩; go_simp; with_reducible rfl)
            refine pT 3 94 (bA 12 175) HT_.out ?_
            refine tT 4 95 (bA 12 191) HT_.out HW_.out hHeld ?_ (hy := by rintro w' ⟨s0, s1, s2, s3, s4, s5, s6, s7, s8, s9⟩; go_simp; with_reducible rfl)
            refine tT 6 97 (bA 12 255) HT_.out HW_.out hHeld ?_ (hy := by rintro w' ⟨s0, s1, s2, s3, s4, s5, s6, s7, s8, s9⟩; go_simp; with_reducible rfl)
            refine pT 8 99 (bA 12 511) HT_.out ?_
            refine tT 9 100 (bA 12 1023) HT_.out HW_.out hHeld ?_ (hy := by rintro w' ⟨s0, s1, s2, s3, s4, s5, s6, s7, s8, s9⟩; go_simp; with_reducible rfl)
            refine oT 10 (bA 12 2047) HT_.out fun K hK => ?_
            refine gS Tryz.func69 #[.string (rdOf ByteArray.empty ar aD), .string (rdOf ByteArray.empty aw aD)] ?_
            with_reducible refine (version_words.calls k3 (rdOf ByteArray.empty ar aD) (rdOf ByteArray.empty aw aD) a7 _ A98.out).mono ?_
            rintro e gG ⟨rfl, hb⟩
            have HS8_ := (hb.cell (World.block_lt_of_cell? _ _ (hHeld.2.2.2.2.2.2.2.2.1))).trans (hHeld.2.2.2.2.2.2.2.2.1)
            have HS9_ := (hb.cell (World.block_lt_of_cell? _ _ (hHeld.2.2.2.2.2.2.2.2.2))).trans (hHeld.2.2.2.2.2.2.2.2.2)
            refine ⟨_, rfl, ?_⟩
            replace ac := am (rB ac.out hb)
            replace ad := am (rB ad.out hb)
            replace aa := am (bB aa.out hb)
            replace ab := am (bB ab.out hb)
            replace ak := am (bB ak.out hb)
            replace al := am (bB al.out hb)
            replace HB := am (sTx HB.out hb)
            refine hK.out _ _ ⟨cT aa 0, cT aa 1, cT aa 2, cT aa 3, cT ab 0, cT ab 1, cT ab 2, cT ab 3, HS8_, HS9_⟩ (fun hHeld => ?_)
            clear hK K
            refine mN 101 ?_
            refine pT 11 13 (bA 12 4095) HT_.out ?_
            refine done_ (done_of HT_.out rfK) ?_
            try go_wp2
            go_roundg k3
            case measure => have := HJ4.out; have := da.out; have := HK3.out; omega
            case rel => exact ⟨(wrap64 (aD + 1)), rfG, H', ⟨by have := HJ4.out; have := da.out; have := HK3.out; omega⟩, ⟨rT ac.out⟩, ⟨rT ad.out⟩, ⟨bT aa.out⟩, ⟨bT ab.out⟩, ⟨bT ak.out⟩, ⟨bT al.out⟩, ⟨eTx HB.out⟩⟩
           ·have de := beq_eq_false_iff_ne.mpr c99
            have df := bne_iff_ne.mpr c99
            replace H := prB H; obtain ⟨rfl, rfl⟩ := H
            try go_wp2
            replace ac := am (Kd.R_drew ac.out)
            replace ad := am (Kd.R_drew ad.out)
            replace aa := am (blk_drew aa.out)
            replace ab := am (blk_drew ab.out)
            replace ak := am (blk_drew ak.out)
            replace al := am (blk_drew al.out)
            replace HB := am (below_drew1 HB.out)
            have p217 : 0 ≤ (aD : Int) := of_decide_eq_true rfA
            have q217 : aD < (ar.length : Int) := of_decide_eq_true rfA
            obtain ⟨ad217, e217, a4⟩ := Kd.at_string (Kd.R_reads' ac.out).2.2 aD p217 q217
            cases e217
            replace p217 := eq_true p217
            replace q217 := eq_true q217
            have p218 : 0 ≤ (aD : Int) := of_decide_eq_true rfA
            have q218 : aD < (aw.length : Int) := of_decide_eq_true rfA
            obtain ⟨ad218, e218, a5⟩ := Kd.at_string (Kd.R_reads' ad.out).2.2 aD p218 q218
            cases e218
            replace p218 := eq_true p218
            replace q218 := eq_true q218
            refine start_ (n := 12) (S := fun w' => w'.cell? ⟨ao, 0, none⟩ = some (.string aA) ∧ w'.cell? ⟨ao, 1, none⟩ = some (.string aB) ∧ w'.cell? ⟨ao, 2, none⟩ = some (.string aE) ∧ w'.cell? ⟨ao, 3, none⟩ = some (.slice (some ad217) ar.length co9) ∧ w'.cell? ⟨an, 0, none⟩ = some (.string az) ∧ w'.cell? ⟨an, 1, none⟩ = some (.string aC) ∧ w'.cell? ⟨an, 2, none⟩ = some (.string aF) ∧ w'.cell? ⟨an, 3, none⟩ = some (.slice (some ad218) aw.length aH) ∧ w'.cell? (ad217.add (aD).toNat) = some (.string (rdOf ByteArray.empty ar aD)) ∧ w'.cell? (ad218.add (aD).toNat) = some (.string (rdOf ByteArray.empty aw aD))) (ds := []) (bA 12 0) rfK rfl rfK ⟨cT aa 0, cT aa 1, cT aa 2, cT aa 3, cT ab 0, cT ab 1, cT ab 2, cT ab 3, a4, a5⟩ (fun hHeld => ?_); refine with_tabW version_Cmp.tab13 version_Cmp.bits13 (fun HT_ HW_ => ?_)
            generalize wr.drew = gH at ac ad aa ab ak al HB a4 a5 hHeld ⊢
            refine pT 0 91 (bA 12 1) HT_.out ?_
            refine pT 2 93 (bA 12 5) HT_.out ?_
            refine pT 5 96 (bA 12 37) HT_.out ?_
            refine pT 7 98 (bA 12 165) HT_.out ?_
            refine tT 1 92 (bA 12 167) HT_.out HW_.out hHeld ?_ (hy := by rintro w' ⟨s0, s1, s2, s3, s4, s5, s6, s7, s8, s9⟩; go_simp; with_reducible rfl)
            refine pT 3 94 (bA 12 175) HT_.out ?_
            refine tT 4 95 (bA 12 191) HT_.out HW_.out hHeld ?_ (hy := by rintro w' ⟨s0, s1, s2, s3, s4, s5, s6, s7, s8, s9⟩; go_simp; with_reducible rfl)
            refine tT 6 97 (bA 12 255) HT_.out HW_.out hHeld ?_ (hy := by rintro w' ⟨s0, s1, s2, s3, s4, s5, s6, s7, s8, s9⟩; go_simp; with_reducible rfl)
            refine pT 8 99 (bA 12 511) HT_.out ?_
            refine tT 9 100 (bA 12 1023) HT_.out HW_.out hHeld ?_ (hy := by rintro w' ⟨s0, s1, s2, s3, s4, s5, s6, s7, s8, s9⟩; go_simp; with_reducible rfl)
            refine oT 10 (bA 12 2047) HT_.out fun K hK => ?_
            refine gS Tryz.func69 #[.string (rdOf ByteArray.empty ar aD), .string (rdOf ByteArray.empty aw aD)] ?_
            with_reducible refine (version_words.calls k3 (rdOf ByteArray.empty ar aD) (rdOf ByteArray.empty aw aD) a7 _ A98.out).mono ?_
            rintro e gI ⟨rfl, hb⟩
            have HS8_ := (hb.cell (World.block_lt_of_cell? _ _ (hHeld.2.2.2.2.2.2.2.2.1))).trans (hHeld.2.2.2.2.2.2.2.2.1)
            have HS9_ := (hb.cell (World.block_lt_of_cell? _ _ (hHeld.2.2.2.2.2.2.2.2.2))).trans (hHeld.2.2.2.2.2.2.2.2.2)
            refine ⟨_, rfl, ?_⟩
            replace ac := am (rB ac.out hb)
            replace ad := am (rB ad.out hb)
            replace aa := am (bB aa.out hb)
            replace ab := am (bB ab.out hb)
            replace ak := am (bB ak.out hb)
            replace al := am (bB al.out hb)
            replace HB := am (sTx HB.out hb)
            refine hK.out _ _ ⟨cT aa 0, cT aa 1, cT aa 2, cT aa 3, cT ab 0, cT ab 1, cT ab 2, cT ab 3, HS8_, HS9_⟩ (fun hHeld => ?_)
            clear hK K
            refine mN 101 ?_
            refine pT 11 13 (bA 12 4095) HT_.out ?_
            refine done_ (done_of HT_.out rfK) ?_
            try go_wp2
            go_ret2
            exact ⟨by first | rfl | (simp [errW_none, errW_some] <;> rfl) | (simp only [← bf]; first | rfl | (simp [errW_none, errW_some] <;> rfl)) | (simp [*, errW_none, errW_some] <;> rfl), eTx HB.out⟩
          ·have dc := decide_eq_false c94
           clear c94
           replace H := bnd H; obtain ⟨b2, e0, H⟩ := H
           replace H := prB H; obtain ⟨rfl, rfl⟩ := H
           have e1 := aG.out
           have e2 := aL.out
           have e3 := ag.out
           have e4 := au.out
           have e5 := ah.out
           have e6 := av.out
           obtain ⟨dg, dh, di, dj, dk, dl, dm, dn⟩ := bxD aa
           have e7 := ai.out
           have e8 := ax.out
           have e9 := aj.out
           have e_ := ay.out
           obtain ⟨dp, dq, dr, dt, du, dv, dw, dx⟩ := bxD ab
           go_wp2_with (first | ((with_reducible refine gtC 68 ?_); refine xCz 112 Tryz.func68 (cmp_Compare_int.calls (ar.length : Int) (aw.length : Int) b2 _ e0.out) fun nd => ?_))
           go_ret2
           exact ⟨by first | rfl | (simp [errW_none, errW_some] <;> rfl) | (simp only [← bf]; first | rfl | (simp [errW_none, errW_some] <;> rfl)) | (simp [*, errW_none, errW_some] <;> rfl), eTx HB.out⟩

end Go.Proofs.YtknmfmedklfepaaGreatDoor.P
