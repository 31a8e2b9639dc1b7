/- graftwood/graftwoodlaw17.ListMore: for every input that can be read as data the call returns true, and each argument reads as before; the listed package-level variables are as the program's text lays them (the card ties them). -/
import Derived.Test.YtknmfmedklfepaaGreatDoorCards
import Derived.Test.YtknmfmedklfepaaGreatDoorTie
import Derived.Test.YtknmfmedklfepaaGreatDoorOpens
import Derived.Test.YtknmfmedklfepaaGreatDoorPureListMore
import Derived.Test.YtknmfmedklfepaaGreatDoorGListMore
import Derived.Test.YtknmfmedklfepaaGreatDoorP27
import Derived.WalkKit
import Derived.ProofKit
import Derived.OpenShut
import Derived.ShutString
import Derived.ChangeOld
import Derived.Below
import Derived.Carry
import Derived.LaidMore
import Derived.Lay
import Derived.SevenTiedAt
import Derived.Stop.Joined
namespace Go.Proofs.YtknmfmedklfepaaGreatDoor.listMore
open Go.ChangeShapes Go.WideShapes Go.ChangeAt Go.RowKit Go.Proofs.YtknmfmedklfepaaGreatDoorO Go.Proofs.YtknmfmedklfepaaGreatDoor.P Go.Proofs.YtknmfmedklfepaaGreatDoorW.PrintWords
open Go.ChangeMaps (open_string shut_string)
set_option linter.unusedVariables false
set_option linter.unusedSimpArgs false
theorem own : ownKnob Tryz.prog.godebug = none := by kernel_rfl
theorem laidOut : laidOutB Tryz.prog = true := by kernel_rfl
abbrev laid : List (String × DataW Unit) := [("unicode/utf8.acceptRanges", Rows.laid_unicode_utf8_acceptRanges), ("unicode/utf8.first", Rows.laid_unicode_utf8_first)]
set_option maxRecDepth 100000 in
theorem lifted (os : Os) (started : os.Started) (H : Type) (enc : TypeId × Value → H) :
    ReturnsInHanded {} Tryz.checked os 6 .any (fun w args => (Rows.listMoreSpec.pre enc Tryz.prog Tryz.f6 Rows.listMoreRow.domain false w args ∧ laidMetH Tryz.prog laid w) ∧ sizedMet enc Tryz.prog Tryz.f6 (OpenSpec.ofChange Rows.listMoreSpec) false w args)
      (Rows.listMoreSpec.post enc Tryz.prog Tryz.f6 false true false false) := by
  refine returnsInHanded_of_change_and (C := Tryz.checked) (X := fun w _ => laidMetH Tryz.prog laid w) (fun _ _ _ hh h => h.of_heap hh) own started (by kernel_rfl) Tryz.func6
    (ChangeSpec.witness_shaped (enc := enc) (C := Tryz.checked) (os := os) (X := fun w _ => laidMetH Tryz.prog laid w) false (World.laidAll Tryz.prog os laid) #[.slice none 0 0, .agg #[.string ByteArray.empty, .string ByteArray.empty]] 8 (World.laidAll_os _ _ _)
      (World.shaped_of_ZipB (by kernel_rfl) (by kernel_rfl)) (by kernel_rfl) (by kernel_rfl) (by kernel_rfl)
      (by rw [MakeChecks.laidMetH_plain _ _ _ (by kernel_rfl)]; exact laidMet_laidAll _ (by kernel_rfl) (by kernel_rfl))) ?_
  intro W base args ds gs before hval0 hW hcnd _ hL _
  have hval : ∀ (j : Nat) t v, Tryz.f6.params[j]? = some t → args[j]? = some v → Value.okWide Tryz.prog W .any base t v := hval0
  have hW' := hW
  obtain ⟨p, q, hA0, hV, rfl, hfz, hnd⟩ := hW
  have hA : DataW.TrodAll enc Tryz.prog W 0 (fun _ => true) true Tryz.f6.params.toList args.toList ds p := hA0
  rw [Tryz.params6] at hA hval
  obtain ⟨v0, vs0, d0, ds0, p0, q0, hargs, rfl, rfl, h0, r0⟩ := trodAll_cons hA
  obtain ⟨v1, vs1, d1, ds1, p1, q1, rfl, rfl, rfl, h1, r1⟩ := trodAll_cons r0
  obtain ⟨rfl, rfl, rfl⟩ := trodAll_nil r1
  obtain rfl : args = #[v0, v1] := by cases args; simp_all
  obtain ⟨rfl, rfl⟩ := trodVars_none hV
  have k0 := h0
  have lt0 : ∀ x ∈ p0, x.block < W.heap.size := by obtain ⟨m, hm⟩ := k0; exact DataW.trod_lt m _ _ _ hm
  obtain ⟨x0, hK0, hQ0⟩ : ∃ x : List (S63), (Kd.slice 63 k63).K W x v0.cells.toList ∧ (x.length ≤ maxLen ∧ ∀ y3, y3 ∈ x → (y3.f0.size ≤ maxLen ∧ (y3.f1.length ≤ maxLen ∧ ∀ y4, y4 ∈ y3.f1 → y4.size ≤ maxLen))) := by
    obtain ⟨fuel, hf⟩ := h0
    exact (opens_slice (d := k63) Tryz.underlying23 (by kernel_rfl) (opens_struct (fun x : S63 => (x.f0, x.f1)) (fun p => (⟨p.1, p.2⟩ : S63)) (fun _ => rfl) Tryz.underlying63 (by kernel_rfl) (opensF_cons (by rfl) (by kernel_rfl) (opens_string Tryz.underlying9) (opensF_one (by rfl) (by kernel_rfl) (opens_slice (d := Kd.string) Tryz.underlying61 (by kernel_rfl) (opens_string Tryz.underlying9)))))) enc W fuel _ _ hf
  obtain ⟨a0, len0, cap0, rfl⟩ := okWide_slice Tryz.underlying23 (hval 0 23 v0 rfl rfl)
  obtain ⟨A0_0, c0_0, e0, hl0_0, hC0_0⟩ := hK0
  simp [Value.cells] at e0
  obtain ⟨rfl, rfl, rfl⟩ := e0
  have k1 := h1
  have lt1 : ∀ x ∈ p1, x.block < W.heap.size := by obtain ⟨m, hm⟩ := k1; exact DataW.trod_lt m _ _ _ hm
  obtain ⟨x1, hK1, hQ1⟩ : ∃ x : S55, k55.K W x v1.cells.toList ∧ (x.f0.size ≤ maxLen ∧ x.f1.size ≤ maxLen) := by
    obtain ⟨fuel, hf⟩ := h1
    exact (opens_struct (fun x : S55 => (x.f0, x.f1)) (fun p => (⟨p.1, p.2⟩ : S55)) (fun _ => rfl) Tryz.underlying55 (by kernel_rfl) (opensF_cons (by rfl) (by kernel_rfl) (opens_string Tryz.underlying9) (opensF_one (by rfl) (by kernel_rfl) (opens_string Tryz.underlying9)))) enc W fuel _ _ hf
  obtain ⟨cs1, rfl, _⟩ := okWide_struct Tryz.underlying55 (hval 1 55 v1 rfl rfl)
  obtain e1 := k55_open hK1
  obtain rfl : cs1 = #[.string x1.f0, .string x1.f1] := by
    cases cs1; simpa [Value.cells] using e1
  clear hA0 hval0
  obtain ⟨k, hk⟩ := Pure.ListMore x0 x1 hQ0 hQ1
  refine (graftwoodlaw17_ListMore.calls k _ _ x0 x1.f0 x1.f1 true W hC0_0 hl0_0 hk rfl).mono fun e W' ⟨he, bel0⟩ => ?_
  have bel : Below W.heap.size W W' := bel0
  subst he
  exact ⟨_, rfl, _, _, _, [], _, [], hW', trodAll_mk1 (shut_bool Tryz.underlying4 _), (trodAll_cons_mk (Below.trod laidOut (by kernel_rfl) (of_decide_eq_true (by kernel_rfl)) k0 bel lt0) (trodAll_cons_mk (Below.trod laidOut (by kernel_rfl) (of_decide_eq_true (by kernel_rfl)) k1 bel lt1) trodAll_mk0)), rfl, bel.frame _, fun h => by cases h⟩
theorem over : Rows.listMoreRow.holds Tryz.pinned (OpenSpec.ofChange Rows.listMoreSpec) :=
  OpenClaim.holds_of_wide 6 Tryz.f6 rfl rfl rfl rfl rfl rfl rfl ⟨rfl, rfl, rfl, rfl, rfl⟩ rfl rfl rfl rfl rfl (by kernel_rfl) Tryz.func6 (by kernel_rfl)
    (of_decide_eq_true (by kernel_rfl)) (by unfold Func.isWrapper; first | (rw [if_pos (by decide +kernel)]; kernel_rfl) | (rw [if_neg (by decide +kernel)]; exact ⟨rfl, rfl⟩))
    (fun os started H enc _ => lifted os started H enc)
theorem card_over : Rows.ListMoreCardSaid :=
  Claim7.holds_tied_plain_at .later [] [.data, .pinned] true (true, "b2a47a222c439bbd31800b83f49158e831581d527f93e1ad65dbe40f957726b7") false over (fun _ h => by cases h) (by kernel_rfl) (fun _ h => by cases h) listMore_row_tie rfl ⟨rfl, rfl⟩ (by kernel_rfl) rfl
    (fun f fn hf hfn => by
      obtain rfl : f = 6 := Option.some.inj ((show Tryz.prog.funcNamed "graftwood/graftwoodlaw17.ListMore" = some 6 by kernel_rfl).symm.trans hf) |>.symm
      obtain rfl : fn = Tryz.f6 := (Option.some.inj (Tryz.func6.symm.trans hfn)).symm
      exact ⟨by kernel_rfl, fun j t ht => by
        rw [Tryz.params6] at ht
        have hm : t ∈ [23, 55] := by simpa using Array.mem_of_getElem? ht
        have hall : ([23, 55].all fun u => !Tryz.prog.wantsStandIn u) = true := by kernel_rfl
        exact (show Tryz.prog.wantsStandIn t = false by simpa using List.all_eq_true.1 hall t hm)⟩)
    (by kernel_rfl)
#print axioms card_over
end Go.Proofs.YtknmfmedklfepaaGreatDoor.listMore
namespace Go.Proofs.YtknmfmedklfepaaGreatDoor
/-- The card, under a short name, for the claim. -/
theorem listMore_holds : Rows.ListMoreCardSaid := listMore.card_over
end Go.Proofs.YtknmfmedklfepaaGreatDoor
