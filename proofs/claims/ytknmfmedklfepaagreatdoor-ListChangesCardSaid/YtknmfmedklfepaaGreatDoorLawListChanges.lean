/- graftwood/graftwoodlaw17.ListChanges: for every input that can be read as data the call returns true, and each argument reads as before; the listed package-level variables are as the program's text lays them (the card ties them). -/
import Derived.Test.YtknmfmedklfepaaGreatDoorCards
import Derived.Test.YtknmfmedklfepaaGreatDoorTie
import Derived.Test.YtknmfmedklfepaaGreatDoorOpens
import Derived.Test.YtknmfmedklfepaaGreatDoorPureListChanges
import Derived.Test.YtknmfmedklfepaaGreatDoorGListChanges
import Derived.Test.YtknmfmedklfepaaGreatDoorP37
import Derived.WalkKit
import Derived.ProofKit
import Derived.OpenShut
import Derived.ShutString
import Derived.ChangeOld
import Derived.Below
import Derived.Carry
import Derived.LaidMore
import Derived.Lay
import Derived.SevenTiedAt
import Derived.Stop.Joined
namespace Go.Proofs.YtknmfmedklfepaaGreatDoor.listChanges
open Go.ChangeShapes Go.WideShapes Go.ChangeAt Go.RowKit Go.Proofs.YtknmfmedklfepaaGreatDoorO Go.Proofs.YtknmfmedklfepaaGreatDoor.P Go.Proofs.YtknmfmedklfepaaGreatDoorW.PrintWords
open Go.ChangeMaps (open_string shut_string)
set_option linter.unusedVariables false
set_option linter.unusedSimpArgs false
theorem own : ownKnob Tryz.prog.godebug = none := by kernel_rfl
theorem laidOut : laidOutB Tryz.prog = true := by kernel_rfl
abbrev laid : List (String × DataW Unit) := [("unicode/utf8.acceptRanges", Rows.laid_unicode_utf8_acceptRanges), ("unicode/utf8.first", Rows.laid_unicode_utf8_first)]
set_option maxRecDepth 100000 in
theorem lifted (os : Os) (started : os.Started) (H : Type) (enc : TypeId × Value → H) :
    ReturnsInHanded {} Tryz.checked os 5 .any (fun w args => (Rows.listChangesSpec.pre enc Tryz.prog Tryz.f5 Rows.listChangesRow.domain false w args ∧ laidMetH Tryz.prog laid w) ∧ sizedMet enc Tryz.prog Tryz.f5 (OpenSpec.ofChange Rows.listChangesSpec) false w args)
      (Rows.listChangesSpec.post enc Tryz.prog Tryz.f5 false true false false) := by
  refine returnsInHanded_of_change_and (C := Tryz.checked) (X := fun w _ => laidMetH Tryz.prog laid w) (fun _ _ _ hh h => h.of_heap hh) own started (by kernel_rfl) Tryz.func5
    (ChangeSpec.witness_shaped (enc := enc) (C := Tryz.checked) (os := os) (X := fun w _ => laidMetH Tryz.prog laid w) false (World.laidAll Tryz.prog os laid) #[.slice none 0 0, .slice none 0 0, .slice none 0 0] 8 (World.laidAll_os _ _ _)
      (World.shaped_of_ZipB (by kernel_rfl) (by kernel_rfl)) (by kernel_rfl) (by kernel_rfl) (by kernel_rfl)
      (by rw [MakeChecks.laidMetH_plain _ _ _ (by kernel_rfl)]; exact laidMet_laidAll _ (by kernel_rfl) (by kernel_rfl))) ?_
  intro W base args ds gs before hval0 hW hcnd _ hL _
  have hval : ∀ (j : Nat) t v, Tryz.f5.params[j]? = some t → args[j]? = some v → Value.okWide Tryz.prog W .any base t v := hval0
  have hW' := hW
  obtain ⟨p, q, hA0, hV, rfl, hfz, hnd⟩ := hW
  have hA : DataW.TrodAll enc Tryz.prog W 0 (fun _ => true) true Tryz.f5.params.toList args.toList ds p := hA0
  rw [Tryz.params5] at hA hval
  obtain ⟨v0, vs0, d0, ds0, p0, q0, hargs, rfl, rfl, h0, r0⟩ := trodAll_cons hA
  obtain ⟨v1, vs1, d1, ds1, p1, q1, rfl, rfl, rfl, h1, r1⟩ := trodAll_cons r0
  obtain ⟨v2, vs2, d2, ds2, p2, q2, rfl, rfl, rfl, h2, r2⟩ := trodAll_cons r1
  obtain ⟨rfl, rfl, rfl⟩ := trodAll_nil r2
  obtain rfl : args = #[v0, v1, v2] := by cases args; simp_all
  obtain ⟨rfl, rfl⟩ := trodVars_none hV
  have k0 := h0
  have lt0 : ∀ x ∈ p0, x.block < W.heap.size := by obtain ⟨m, hm⟩ := k0; exact DataW.trod_lt m _ _ _ hm
  obtain ⟨x0, hK0, hQ0⟩ : ∃ x : List (S55), (Kd.slice 55 k55).K W x v0.cells.toList ∧ (x.length ≤ maxLen ∧ ∀ y4, y4 ∈ x → (y4.f0.size ≤ maxLen ∧ y4.f1.size ≤ maxLen)) := by
    obtain ⟨fuel, hf⟩ := h0
    exact (opens_slice (d := k55) Tryz.underlying22 (by kernel_rfl) (opens_struct (fun x : S55 => (x.f0, x.f1)) (fun p => (⟨p.1, p.2⟩ : S55)) (fun _ => rfl) Tryz.underlying55 (by kernel_rfl) (opensF_cons (by rfl) (by kernel_rfl) (opens_string Tryz.underlying9) (opensF_one (by rfl) (by kernel_rfl) (opens_string Tryz.underlying9))))) enc W fuel _ _ hf
  obtain ⟨a0, len0, cap0, rfl⟩ := okWide_slice Tryz.underlying22 (hval 0 22 v0 rfl rfl)
  obtain ⟨A0_0, c0_0, e0, hl0_0, hC0_0⟩ := hK0
  simp [Value.cells] at e0
  obtain ⟨rfl, rfl, rfl⟩ := e0
  have k1 := h1
  have lt1 : ∀ x ∈ p1, x.block < W.heap.size := by obtain ⟨m, hm⟩ := k1; exact DataW.trod_lt m _ _ _ hm
  obtain ⟨x1, hK1, hQ1⟩ : ∃ x : List (S55), (Kd.slice 55 k55).K W x v1.cells.toList ∧ (x.length ≤ maxLen ∧ ∀ y5, y5 ∈ x → (y5.f0.size ≤ maxLen ∧ y5.f1.size ≤ maxLen)) := by
    obtain ⟨fuel, hf⟩ := h1
    exact (opens_slice (d := k55) Tryz.underlying22 (by kernel_rfl) (opens_struct (fun x : S55 => (x.f0, x.f1)) (fun p => (⟨p.1, p.2⟩ : S55)) (fun _ => rfl) Tryz.underlying55 (by kernel_rfl) (opensF_cons (by rfl) (by kernel_rfl) (opens_string Tryz.underlying9) (opensF_one (by rfl) (by kernel_rfl) (opens_string Tryz.underlying9))))) enc W fuel _ _ hf
  obtain ⟨a1, len1, cap1, rfl⟩ := okWide_slice Tryz.underlying22 (hval 1 22 v1 rfl rfl)
  obtain ⟨A1_0, c1_0, e1, hl1_0, hC1_0⟩ := hK1
  simp [Value.cells] at e1
  obtain ⟨rfl, rfl, rfl⟩ := e1
  have k2 := h2
  have lt2 : ∀ x ∈ p2, x.block < W.heap.size := by obtain ⟨m, hm⟩ := k2; exact DataW.trod_lt m _ _ _ hm
  obtain ⟨x2, hK2, hQ2⟩ : ∃ x : List (S75), (Kd.slice 75 k75).K W x v2.cells.toList ∧ (x.length ≤ maxLen ∧ ∀ y6, y6 ∈ x → (y6.f0.size ≤ maxLen ∧ y6.f1.size ≤ maxLen ∧ y6.f2.size ≤ maxLen)) := by
    obtain ⟨fuel, hf⟩ := h2
    exact (opens_slice (d := k75) Tryz.underlying43 (by kernel_rfl) (opens_struct (fun x : S75 => (x.f0, x.f1, x.f2)) (fun p => (⟨p.1, p.2.1, p.2.2⟩ : S75)) (fun _ => rfl) Tryz.underlying75 (by kernel_rfl) (opensF_cons (by rfl) (by kernel_rfl) (opens_string Tryz.underlying9) (opensF_cons (by rfl) (by kernel_rfl) (opens_string Tryz.underlying9) (opensF_one (by rfl) (by kernel_rfl) (opens_string Tryz.underlying9)))))) enc W fuel _ _ hf
  obtain ⟨a2, len2, cap2, rfl⟩ := okWide_slice Tryz.underlying43 (hval 2 43 v2 rfl rfl)
  obtain ⟨A2_0, c2_0, e2, hl2_0, hC2_0⟩ := hK2
  simp [Value.cells] at e2
  obtain ⟨rfl, rfl, rfl⟩ := e2
  clear hA0 hval0
  obtain ⟨k, hk⟩ := Pure.ListChanges x0 x1 x2 hQ0 hQ1 hQ2
  refine (graftwoodlaw17_ListChanges.calls k _ _ x0 _ _ x1 _ _ x2 true W hC0_0 hl0_0 hC1_0 hl1_0 hC2_0 hl2_0 hk).mono fun e W' ⟨he, bel0⟩ => ?_
  have bel : Below W.heap.size W W' := bel0
  subst he
  exact ⟨_, rfl, _, _, _, [], _, [], hW', trodAll_mk1 (shut_bool Tryz.underlying4 _), (trodAll_cons_mk (Below.trod laidOut (by kernel_rfl) (of_decide_eq_true (by kernel_rfl)) k0 bel lt0) (trodAll_cons_mk (Below.trod laidOut (by kernel_rfl) (of_decide_eq_true (by kernel_rfl)) k1 bel lt1) (trodAll_cons_mk (Below.trod laidOut (by kernel_rfl) (of_decide_eq_true (by kernel_rfl)) k2 bel lt2) trodAll_mk0))), rfl, bel.frame _, fun h => by cases h⟩
theorem over : Rows.listChangesRow.holds Tryz.pinned (OpenSpec.ofChange Rows.listChangesSpec) :=
  OpenClaim.holds_of_wide 5 Tryz.f5 rfl rfl rfl rfl rfl rfl rfl ⟨rfl, rfl, rfl, rfl, rfl⟩ rfl rfl rfl rfl rfl (by kernel_rfl) Tryz.func5 (by kernel_rfl)
    (of_decide_eq_true (by kernel_rfl)) (by unfold Func.isWrapper; first | (rw [if_pos (by decide +kernel)]; kernel_rfl) | (rw [if_neg (by decide +kernel)]; exact ⟨rfl, rfl⟩))
    (fun os started H enc _ => lifted os started H enc)
theorem card_over : Rows.ListChangesCardSaid :=
  Claim7.holds_tied_plain_at .later [] [.data, .pinned] true (true, "b2a47a222c439bbd31800b83f49158e831581d527f93e1ad65dbe40f957726b7") false over (fun _ h => by cases h) (by kernel_rfl) (fun _ h => by cases h) listChanges_row_tie rfl ⟨rfl, rfl⟩ (by kernel_rfl) rfl
    (fun f fn hf hfn => by
      obtain rfl : f = 5 := Option.some.inj ((show Tryz.prog.funcNamed "graftwood/graftwoodlaw17.ListChanges" = some 5 by kernel_rfl).symm.trans hf) |>.symm
      obtain rfl : fn = Tryz.f5 := (Option.some.inj (Tryz.func5.symm.trans hfn)).symm
      exact ⟨by kernel_rfl, fun j t ht => by
        rw [Tryz.params5] at ht
        have hm : t ∈ [22, 22, 43] := by simpa using Array.mem_of_getElem? ht
        have hall : ([22, 22, 43].all fun u => !Tryz.prog.wantsStandIn u) = true := by kernel_rfl
        exact (show Tryz.prog.wantsStandIn t = false by simpa using List.all_eq_true.1 hall t hm)⟩)
    (by kernel_rfl)
#print axioms card_over
end Go.Proofs.YtknmfmedklfepaaGreatDoor.listChanges
namespace Go.Proofs.YtknmfmedklfepaaGreatDoor
/-- The card, under a short name, for the claim. -/
theorem listChanges_holds : Rows.ListChangesCardSaid := listChanges.card_over
end Go.Proofs.YtknmfmedklfepaaGreatDoor
