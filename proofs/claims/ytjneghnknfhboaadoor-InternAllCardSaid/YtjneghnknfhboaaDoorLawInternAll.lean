/- graftwood/graftwoodlaw10.InternAll: for every input that can be read as data the call returns true, and each argument reads as before; the listed package-level variables are as the program's text lays them (the card ties them). -/
import Derived.Test.YtjneghnknfhboaaDoorCards
import Derived.Test.YtjneghnknfhboaaDoorTie
import Derived.Test.YtjneghnknfhboaaDoorOpens
import Derived.Test.YtjneghnknfhboaaDoorPureInternAll
import Derived.Test.YtjneghnknfhboaaDoorGInternAll
import Derived.Test.YtjneghnknfhboaaDoorP27
import Derived.WalkKit
import Derived.ProofKit
import Derived.OpenShut
import Derived.ShutString
import Derived.ChangeOld
import Derived.Below
import Derived.Carry
import Derived.LaidMore
import Derived.Lay
import Derived.SevenTiedAt
import Derived.Stop.Joined
namespace Go.Proofs.YtjneghnknfhboaaDoor.internAll
open Go.ChangeShapes Go.WideShapes Go.ChangeAt Go.RowKit Go.Proofs.YtjneghnknfhboaaDoorO Go.Proofs.YtjneghnknfhboaaDoor.P Go.Proofs.YtjneghnknfhboaaDoorW.PrintWords
open Go.ChangeMaps (open_string shut_string)
set_option linter.unusedVariables false
set_option linter.unusedSimpArgs false
theorem own : ownKnob Tryd.prog.godebug = none := by kernel_rfl
theorem laidOut : laidOutB Tryd.prog = true := by kernel_rfl
abbrev laid : List (String × DataW Unit) := [("unicode/utf8.acceptRanges", Rows.laid_unicode_utf8_acceptRanges), ("unicode/utf8.first", Rows.laid_unicode_utf8_first)]
set_option maxRecDepth 100000 in
theorem lifted (os : Os) (started : os.Started) (H : Type) (enc : TypeId × Value → H) :
    ReturnsInHanded {} Tryd.checked os 3 .any (fun w args => (Rows.internAllSpec.pre enc Tryd.prog Tryd.f3 Rows.internAllRow.domain false w args ∧ laidMetH Tryd.prog laid w) ∧ sizedMet enc Tryd.prog Tryd.f3 (OpenSpec.ofChange Rows.internAllSpec) false w args)
      (Rows.internAllSpec.post enc Tryd.prog Tryd.f3 false true false false) := by
  refine returnsInHanded_of_change_and (C := Tryd.checked) (X := fun w _ => laidMetH Tryd.prog laid w) (fun _ _ _ hh h => h.of_heap hh) own started (by kernel_rfl) Tryd.func3
    (ChangeSpec.witness_shaped (enc := enc) (C := Tryd.checked) (os := os) (X := fun w _ => laidMetH Tryd.prog laid w) false (World.laidAll Tryd.prog os laid) #[.agg #[.slice none 0 0], .slice none 0 0] 8 (World.laidAll_os _ _ _)
      (World.shaped_of_ZipB (by kernel_rfl) (by kernel_rfl)) (by kernel_rfl) (by kernel_rfl) (by kernel_rfl)
      (by rw [MakeChecks.laidMetH_plain _ _ _ (by kernel_rfl)]; exact laidMet_laidAll _ (by kernel_rfl) (by kernel_rfl))) ?_
  intro W base args ds gs before hval0 hW hcnd _ hL _
  have hval : ∀ (j : Nat) t v, Tryd.f3.params[j]? = some t → args[j]? = some v → Value.okWide Tryd.prog W .any base t v := hval0
  have hW' := hW
  obtain ⟨p, q, hA0, hV, rfl, hfz, hnd⟩ := hW
  have hA : DataW.TrodAll enc Tryd.prog W 0 (fun _ => true) true Tryd.f3.params.toList args.toList ds p := hA0
  rw [Tryd.params3] at hA hval
  obtain ⟨v0, vs0, d0, ds0, p0, q0, hargs, rfl, rfl, h0, r0⟩ := trodAll_cons hA
  obtain ⟨v1, vs1, d1, ds1, p1, q1, rfl, rfl, rfl, h1, r1⟩ := trodAll_cons r0
  obtain ⟨rfl, rfl, rfl⟩ := trodAll_nil r1
  obtain rfl : args = #[v0, v1] := by cases args; simp_all
  obtain ⟨rfl, rfl⟩ := trodVars_none hV
  have k0 := h0
  have lt0 : ∀ x ∈ p0, x.block < W.heap.size := by obtain ⟨m, hm⟩ := k0; exact DataW.trod_lt m _ _ _ hm
  obtain ⟨x0, hK0, hQ0⟩ : ∃ x : S24, k24.K W x v0.cells.toList ∧ ((x.f0.length ≤ maxLen ∧ ∀ y3, y3 ∈ x.f0 → (y3.f0.size ≤ maxLen ∧ y3.f1.size ≤ maxLen))) := by
    obtain ⟨fuel, hf⟩ := h0
    exact (opens_struct (fun x : S24 => x.f0) (fun p => (⟨p⟩ : S24)) (fun _ => rfl) Tryd.underlying24 (by kernel_rfl) (opensF_one (by rfl) (by kernel_rfl) (opens_slice (d := k34) Tryd.underlying22 (by kernel_rfl) (opens_struct (fun x : S34 => (x.f0, x.f1)) (fun p => (⟨p.1, p.2⟩ : S34)) (fun _ => rfl) Tryd.underlying34 (by kernel_rfl) (opensF_cons (by rfl) (by kernel_rfl) (opens_string Tryd.underlying9) (opensF_one (by rfl) (by kernel_rfl) (opens_string Tryd.underlying9))))))) enc W fuel _ _ hf
  obtain ⟨cs0, rfl, _⟩ := okWide_struct Tryd.underlying24 (hval 0 24 v0 rfl rfl)
  obtain ⟨A0_0, c0_0, e0, hl0_0, hC0_0⟩ := k24_open hK0
  obtain rfl : cs0 = #[.slice A0_0 x0.f0.length c0_0] := by
    cases cs0; simpa [Value.cells] using e0
  have k1 := h1
  have lt1 : ∀ x ∈ p1, x.block < W.heap.size := by obtain ⟨m, hm⟩ := k1; exact DataW.trod_lt m _ _ _ hm
  obtain ⟨x1, hK1, hQ1⟩ : ∃ x : List (S34), (Kd.slice 34 k34).K W x v1.cells.toList ∧ (x.length ≤ maxLen ∧ ∀ y4, y4 ∈ x → (y4.f0.size ≤ maxLen ∧ y4.f1.size ≤ maxLen)) := by
    obtain ⟨fuel, hf⟩ := h1
    exact (opens_slice (d := k34) Tryd.underlying22 (by kernel_rfl) (opens_struct (fun x : S34 => (x.f0, x.f1)) (fun p => (⟨p.1, p.2⟩ : S34)) (fun _ => rfl) Tryd.underlying34 (by kernel_rfl) (opensF_cons (by rfl) (by kernel_rfl) (opens_string Tryd.underlying9) (opensF_one (by rfl) (by kernel_rfl) (opens_string Tryd.underlying9))))) enc W fuel _ _ hf
  obtain ⟨a1, len1, cap1, rfl⟩ := okWide_slice Tryd.underlying22 (hval 1 22 v1 rfl rfl)
  obtain ⟨A1_0, c1_0, e1, hl1_0, hC1_0⟩ := hK1
  simp [Value.cells] at e1
  obtain ⟨rfl, rfl, rfl⟩ := e1
  clear hA0 hval0
  obtain ⟨k, hk⟩ := Pure.InternAll x0 x1 hQ0 hQ1
  refine (graftwoodlaw10_InternAll.calls k _ _ x0.f0 _ _ x1 true W hC0_0 hl0_0 hC1_0 hl1_0 hk).mono fun e W' ⟨he, bel0⟩ => ?_
  have bel : Below W.heap.size W W' := bel0
  subst he
  exact ⟨_, rfl, _, _, _, [], _, [], hW', trodAll_mk1 (shut_bool Tryd.underlying4 _), (trodAll_cons_mk (Below.trod laidOut (by kernel_rfl) (of_decide_eq_true (by kernel_rfl)) k0 bel lt0) (trodAll_cons_mk (Below.trod laidOut (by kernel_rfl) (of_decide_eq_true (by kernel_rfl)) k1 bel lt1) trodAll_mk0)), rfl, bel.frame _, fun h => by cases h⟩
theorem over : Rows.internAllRow.holds Tryd.pinned (OpenSpec.ofChange Rows.internAllSpec) :=
  OpenClaim.holds_of_wide 3 Tryd.f3 rfl rfl rfl rfl rfl rfl rfl ⟨rfl, rfl, rfl, rfl, rfl⟩ rfl rfl rfl rfl rfl (by kernel_rfl) Tryd.func3 (by kernel_rfl)
    (of_decide_eq_true (by kernel_rfl)) (by unfold Func.isWrapper; first | (rw [if_pos (by decide +kernel)]; kernel_rfl) | (rw [if_neg (by decide +kernel)]; exact ⟨rfl, rfl⟩))
    (fun os started H enc _ => lifted os started H enc)
theorem card_over : Rows.InternAllCardSaid :=
  Claim7.holds_tied_plain_at .later [] [.data, .pinned] true (true, "7993bff976a68c6f8d2dc53ad9aa6fa208dd5b0f5b691e862a624663268cdf37") false over (fun _ h => by cases h) (by kernel_rfl) (fun _ h => by cases h) internAll_row_tie rfl ⟨rfl, rfl⟩ (by kernel_rfl) rfl
    (fun f fn hf hfn => by
      obtain rfl : f = 3 := Option.some.inj ((show Tryd.prog.funcNamed "graftwood/graftwoodlaw10.InternAll" = some 3 by kernel_rfl).symm.trans hf) |>.symm
      obtain rfl : fn = Tryd.f3 := (Option.some.inj (Tryd.func3.symm.trans hfn)).symm
      exact ⟨by kernel_rfl, fun j t ht => by
        rw [Tryd.params3] at ht
        have hm : t ∈ [24, 22] := by simpa using Array.mem_of_getElem? ht
        have hall : ([24, 22].all fun u => !Tryd.prog.wantsStandIn u) = true := by kernel_rfl
        exact (show Tryd.prog.wantsStandIn t = false by simpa using List.all_eq_true.1 hall t hm)⟩)
    (by kernel_rfl)
#print axioms card_over
end Go.Proofs.YtjneghnknfhboaaDoor.internAll
namespace Go.Proofs.YtjneghnknfhboaaDoor
/-- The card, under a short name, for the claim. -/
theorem internAll_holds : Rows.InternAllCardSaid := internAll.card_over
end Go.Proofs.YtjneghnknfhboaaDoor
