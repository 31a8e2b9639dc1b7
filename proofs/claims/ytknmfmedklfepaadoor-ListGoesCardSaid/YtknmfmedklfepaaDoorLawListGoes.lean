/- graftwood/graftwoodlaw17.ListGoes: for every input that can be read as data the call returns true, and each argument reads as before; the listed package-level variables are as the program's text lays them (the card ties them). -/
import Derived.Test.YtknmfmedklfepaaDoorCards
import Derived.Test.YtknmfmedklfepaaDoorTie
import Derived.Test.YtknmfmedklfepaaDoorOpens
import Derived.Test.YtknmfmedklfepaaDoorPureListGoes
import Derived.Test.YtknmfmedklfepaaDoorGListGoes
import Derived.Test.YtknmfmedklfepaaDoorP30
import Derived.WalkKit
import Derived.ProofKit
import Derived.OpenShut
import Derived.ShutString
import Derived.ChangeOld
import Derived.Below
import Derived.Carry
import Derived.LaidMore
import Derived.Lay
import Derived.SevenTiedAt
import Derived.Stop.Joined
namespace Go.Proofs.YtknmfmedklfepaaDoor.listGoes
open Go.ChangeShapes Go.WideShapes Go.ChangeAt Go.RowKit Go.Proofs.YtknmfmedklfepaaDoorO Go.Proofs.YtknmfmedklfepaaDoor.P Go.Proofs.YtknmfmedklfepaaDoorW.PrintWords
open Go.ChangeMaps (open_string shut_string)
set_option linter.unusedVariables false
set_option linter.unusedSimpArgs false
theorem own : ownKnob Tryd.prog.godebug = none := by kernel_rfl
theorem laidOut : laidOutB Tryd.prog = true := by kernel_rfl
abbrev laid : List (String × DataW Unit) := [("unicode/utf8.acceptRanges", Rows.laid_unicode_utf8_acceptRanges), ("unicode/utf8.first", Rows.laid_unicode_utf8_first)]
set_option maxRecDepth 100000 in
theorem lifted (os : Os) (started : os.Started) (H : Type) (enc : TypeId × Value → H) :
    ReturnsInHanded {} Tryd.checked os 4 .any (fun w args => (Rows.listGoesSpec.pre enc Tryd.prog Tryd.f4 Rows.listGoesRow.domain false w args ∧ laidMetH Tryd.prog laid w) ∧ sizedMet enc Tryd.prog Tryd.f4 (OpenSpec.ofChange Rows.listGoesSpec) false w args)
      (Rows.listGoesSpec.post enc Tryd.prog Tryd.f4 false true false false) := by
  refine returnsInHanded_of_change_and (C := Tryd.checked) (X := fun w _ => laidMetH Tryd.prog laid w) (fun _ _ _ hh h => h.of_heap hh) own started (by kernel_rfl) Tryd.func4
    (ChangeSpec.witness_shaped (enc := enc) (C := Tryd.checked) (os := os) (X := fun w _ => laidMetH Tryd.prog laid w) false (World.laidAll Tryd.prog os laid) #[.slice none 0 0, .slice none 0 0, .slice none 0 0] 8 (World.laidAll_os _ _ _)
      (World.shaped_of_ZipB (by kernel_rfl) (by kernel_rfl)) (by kernel_rfl) (by kernel_rfl) (by kernel_rfl)
      (by rw [MakeChecks.laidMetH_plain _ _ _ (by kernel_rfl)]; exact laidMet_laidAll _ (by kernel_rfl) (by kernel_rfl))) ?_
  intro W base args ds gs before hval0 hW hcnd _ hL _
  have hval : ∀ (j : Nat) t v, Tryd.f4.params[j]? = some t → args[j]? = some v → Value.okWide Tryd.prog W .any base t v := hval0
  have hW' := hW
  obtain ⟨p, q, hA0, hV, rfl, hfz, hnd⟩ := hW
  have hA : DataW.TrodAll enc Tryd.prog W 0 (fun _ => true) true Tryd.f4.params.toList args.toList ds p := hA0
  rw [Tryd.params4] at hA hval
  obtain ⟨v0, vs0, d0, ds0, p0, q0, hargs, rfl, rfl, h0, r0⟩ := trodAll_cons hA
  obtain ⟨v1, vs1, d1, ds1, p1, q1, rfl, rfl, rfl, h1, r1⟩ := trodAll_cons r0
  obtain ⟨v2, vs2, d2, ds2, p2, q2, rfl, rfl, rfl, h2, r2⟩ := trodAll_cons r1
  obtain ⟨rfl, rfl, rfl⟩ := trodAll_nil r2
  obtain rfl : args = #[v0, v1, v2] := by cases args; simp_all
  obtain ⟨rfl, rfl⟩ := trodVars_none hV
  have k0 := h0
  have lt0 : ∀ x ∈ p0, x.block < W.heap.size := by obtain ⟨m, hm⟩ := k0; exact DataW.trod_lt m _ _ _ hm
  obtain ⟨x0, hK0, hQ0⟩ : ∃ x : List (S33), (Kd.slice 33 k33).K W x v0.cells.toList ∧ (x.length ≤ maxLen ∧ ∀ y8, y8 ∈ x → (y8.f0.size ≤ maxLen ∧ y8.f1.size ≤ maxLen)) := by
    obtain ⟨fuel, hf⟩ := h0
    exact (opens_slice (d := k33) Tryd.underlying22 (by kernel_rfl) (opens_struct (fun x : S33 => (x.f0, x.f1)) (fun p => (⟨p.1, p.2⟩ : S33)) (fun _ => rfl) Tryd.underlying33 (by kernel_rfl) (opensF_cons (by rfl) (by kernel_rfl) (opens_string Tryd.underlying9) (opensF_one (by rfl) (by kernel_rfl) (opens_string Tryd.underlying9))))) enc W fuel _ _ hf
  obtain ⟨a0, len0, cap0, rfl⟩ := okWide_slice Tryd.underlying22 (hval 0 22 v0 rfl rfl)
  obtain ⟨A0_0, c0_0, e0, hl0_0, hC0_0⟩ := hK0
  simp [Value.cells] at e0
  obtain ⟨rfl, rfl, rfl⟩ := e0
  have k1 := h1
  have lt1 : ∀ x ∈ p1, x.block < W.heap.size := by obtain ⟨m, hm⟩ := k1; exact DataW.trod_lt m _ _ _ hm
  obtain ⟨x1, hK1, hQ1⟩ : ∃ x : List (S33), (Kd.slice 33 k33).K W x v1.cells.toList ∧ (x.length ≤ maxLen ∧ ∀ y9, y9 ∈ x → (y9.f0.size ≤ maxLen ∧ y9.f1.size ≤ maxLen)) := by
    obtain ⟨fuel, hf⟩ := h1
    exact (opens_slice (d := k33) Tryd.underlying22 (by kernel_rfl) (opens_struct (fun x : S33 => (x.f0, x.f1)) (fun p => (⟨p.1, p.2⟩ : S33)) (fun _ => rfl) Tryd.underlying33 (by kernel_rfl) (opensF_cons (by rfl) (by kernel_rfl) (opens_string Tryd.underlying9) (opensF_one (by rfl) (by kernel_rfl) (opens_string Tryd.underlying9))))) enc W fuel _ _ hf
  obtain ⟨a1, len1, cap1, rfl⟩ := okWide_slice Tryd.underlying22 (hval 1 22 v1 rfl rfl)
  obtain ⟨A1_0, c1_0, e1, hl1_0, hC1_0⟩ := hK1
  simp [Value.cells] at e1
  obtain ⟨rfl, rfl, rfl⟩ := e1
  have k2 := h2
  have lt2 : ∀ x ∈ p2, x.block < W.heap.size := by obtain ⟨m, hm⟩ := k2; exact DataW.trod_lt m _ _ _ hm
  obtain ⟨x2, hK2, hQ2⟩ : ∃ x : List (S33), (Kd.slice 33 k33).K W x v2.cells.toList ∧ (x.length ≤ maxLen ∧ ∀ y10, y10 ∈ x → (y10.f0.size ≤ maxLen ∧ y10.f1.size ≤ maxLen)) := by
    obtain ⟨fuel, hf⟩ := h2
    exact (opens_slice (d := k33) Tryd.underlying22 (by kernel_rfl) (opens_struct (fun x : S33 => (x.f0, x.f1)) (fun p => (⟨p.1, p.2⟩ : S33)) (fun _ => rfl) Tryd.underlying33 (by kernel_rfl) (opensF_cons (by rfl) (by kernel_rfl) (opens_string Tryd.underlying9) (opensF_one (by rfl) (by kernel_rfl) (opens_string Tryd.underlying9))))) enc W fuel _ _ hf
  obtain ⟨a2, len2, cap2, rfl⟩ := okWide_slice Tryd.underlying22 (hval 2 22 v2 rfl rfl)
  obtain ⟨A2_0, c2_0, e2, hl2_0, hC2_0⟩ := hK2
  simp [Value.cells] at e2
  obtain ⟨rfl, rfl, rfl⟩ := e2
  clear hA0 hval0
  obtain ⟨k, hk⟩ := Pure.ListGoes x0 x1 x2 hQ0 hQ1 hQ2
  refine (graftwoodlaw17_ListGoes.calls k _ _ x0 _ _ x1 _ _ x2 true W hC0_0 hl0_0 hC1_0 hl1_0 hC2_0 hl2_0 hk).mono fun e W' ⟨he, bel0⟩ => ?_
  have bel : Below W.heap.size W W' := bel0
  subst he
  exact ⟨_, rfl, _, _, _, [], _, [], hW', trodAll_mk1 (shut_bool Tryd.underlying4 _), (trodAll_cons_mk (Below.trod laidOut (by kernel_rfl) (of_decide_eq_true (by kernel_rfl)) k0 bel lt0) (trodAll_cons_mk (Below.trod laidOut (by kernel_rfl) (of_decide_eq_true (by kernel_rfl)) k1 bel lt1) (trodAll_cons_mk (Below.trod laidOut (by kernel_rfl) (of_decide_eq_true (by kernel_rfl)) k2 bel lt2) trodAll_mk0))), rfl, bel.frame _, fun h => by cases h⟩
theorem over : Rows.listGoesRow.holds Tryd.pinned (OpenSpec.ofChange Rows.listGoesSpec) :=
  OpenClaim.holds_of_wide 4 Tryd.f4 rfl rfl rfl rfl rfl rfl rfl ⟨rfl, rfl, rfl, rfl, rfl⟩ rfl rfl rfl rfl rfl (by kernel_rfl) Tryd.func4 (by kernel_rfl)
    (of_decide_eq_true (by kernel_rfl)) (by unfold Func.isWrapper; first | (rw [if_pos (by decide +kernel)]; kernel_rfl) | (rw [if_neg (by decide +kernel)]; exact ⟨rfl, rfl⟩))
    (fun os started H enc _ => lifted os started H enc)
theorem card_over : Rows.ListGoesCardSaid :=
  Claim7.holds_tied_plain_at .later [] [.data, .pinned] true (true, "cec755b34ab932346a180ef854bddeec169d6000118f241176039945f1c39d5a") false over (fun _ h => by cases h) (by kernel_rfl) (fun _ h => by cases h) listGoes_row_tie rfl ⟨rfl, rfl⟩ (by kernel_rfl) rfl
    (fun f fn hf hfn => by
      obtain rfl : f = 4 := Option.some.inj ((show Tryd.prog.funcNamed "graftwood/graftwoodlaw17.ListGoes" = some 4 by kernel_rfl).symm.trans hf) |>.symm
      obtain rfl : fn = Tryd.f4 := (Option.some.inj (Tryd.func4.symm.trans hfn)).symm
      exact ⟨by kernel_rfl, fun j t ht => by
        rw [Tryd.params4] at ht
        have hm : t ∈ [22, 22, 22] := by simpa using Array.mem_of_getElem? ht
        have hall : ([22, 22, 22].all fun u => !Tryd.prog.wantsStandIn u) = true := by kernel_rfl
        exact (show Tryd.prog.wantsStandIn t = false by simpa using List.all_eq_true.1 hall t hm)⟩)
    (by kernel_rfl)
#print axioms card_over
end Go.Proofs.YtknmfmedklfepaaDoor.listGoes
namespace Go.Proofs.YtknmfmedklfepaaDoor
/-- The card, under a short name, for the claim. -/
theorem listGoes_holds : Rows.ListGoesCardSaid := listGoes.card_over
end Go.Proofs.YtknmfmedklfepaaDoor
