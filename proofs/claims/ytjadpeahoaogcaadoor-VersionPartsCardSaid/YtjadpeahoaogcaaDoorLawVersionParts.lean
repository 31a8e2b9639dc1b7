/- graftwood/graftwoodlaw03.VersionParts: for every input that can be read as data the call returns true, and each argument reads as before; the listed package-level variables are as the program's text lays them (the card ties them). -/
import Derived.Test.YtjadpeahoaogcaaDoorCards
import Derived.Test.YtjadpeahoaogcaaDoorTie
import Derived.Test.YtjadpeahoaogcaaDoorOpens
import Derived.Test.YtjadpeahoaogcaaDoorPureVersionParts
import Derived.Test.YtjadpeahoaogcaaDoorGVersionParts
import Derived.Test.YtjadpeahoaogcaaDoorP29
import Derived.WalkKit
import Derived.ProofKit
import Derived.OpenShut
import Derived.ShutString
import Derived.ChangeOld
import Derived.Below
import Derived.Carry
import Derived.LaidMore
import Derived.Lay
import Derived.SevenTiedAt
import Derived.Stop.Joined
namespace Go.Proofs.YtjadpeahoaogcaaDoor.versionParts
open Go.ChangeShapes Go.WideShapes Go.ChangeAt Go.RowKit Go.Proofs.YtjadpeahoaogcaaDoorO Go.Proofs.YtjadpeahoaogcaaDoor.P Go.Proofs.YtjadpeahoaogcaaDoorW.PrintWords
open Go.ChangeMaps (open_string shut_string)
set_option linter.unusedVariables false
set_option linter.unusedSimpArgs false
theorem own : ownKnob Tryd.prog.godebug = none := by kernel_rfl
theorem laidOut : laidOutB Tryd.prog = true := by kernel_rfl
abbrev laid : List (String × DataW Unit) := [("unicode/utf8.acceptRanges", Rows.laid_unicode_utf8_acceptRanges), ("unicode/utf8.first", Rows.laid_unicode_utf8_first)]
set_option maxRecDepth 100000 in
theorem lifted (os : Os) (started : os.Started) (H : Type) (enc : TypeId × Value → H) :
    ReturnsInHanded {} Tryd.checked os 6 .any (fun w args => (Rows.versionPartsSpec.pre enc Tryd.prog Tryd.f6 Rows.versionPartsRow.domain false w args ∧ laidMetH Tryd.prog laid w) ∧ sizedMet enc Tryd.prog Tryd.f6 (OpenSpec.ofChange Rows.versionPartsSpec) false w args)
      (Rows.versionPartsSpec.post enc Tryd.prog Tryd.f6 false true false false) := by
  refine returnsInHanded_of_change_and (C := Tryd.checked) (X := fun w _ => laidMetH Tryd.prog laid w) (fun _ _ _ hh h => h.of_heap hh) own started (by kernel_rfl) Tryd.func6
    (ChangeSpec.witness_shaped (enc := enc) (C := Tryd.checked) (os := os) (X := fun w _ => laidMetH Tryd.prog laid w) false (World.laidAll Tryd.prog os laid) #[.string ByteArray.empty, .agg #[.string ByteArray.empty, .string ByteArray.empty, .string ByteArray.empty, .slice none 0 0]] 8 (World.laidAll_os _ _ _)
      (World.shaped_of_ZipB (by kernel_rfl) (by kernel_rfl)) (by kernel_rfl) (by kernel_rfl) (by kernel_rfl)
      (by rw [MakeChecks.laidMetH_plain _ _ _ (by kernel_rfl)]; exact laidMet_laidAll _ (by kernel_rfl) (by kernel_rfl))) ?_
  intro W base args ds gs before hval0 hW hcnd _ hL _
  have hval : ∀ (j : Nat) t v, Tryd.f6.params[j]? = some t → args[j]? = some v → Value.okWide Tryd.prog W .any base t v := hval0
  have hW' := hW
  obtain ⟨p, q, hA0, hV, rfl, hfz, hnd⟩ := hW
  have hA : DataW.TrodAll enc Tryd.prog W 0 (fun _ => true) true Tryd.f6.params.toList args.toList ds p := hA0
  rw [Tryd.params6] at hA hval
  obtain ⟨v0, vs0, d0, ds0, p0, q0, hargs, rfl, rfl, h0, r0⟩ := trodAll_cons hA
  obtain ⟨v1, vs1, d1, ds1, p1, q1, rfl, rfl, rfl, h1, r1⟩ := trodAll_cons r0
  obtain ⟨rfl, rfl, rfl⟩ := trodAll_nil r1
  obtain rfl : args = #[v0, v1] := by cases args; simp_all
  obtain ⟨rfl, rfl⟩ := trodVars_none hV
  have k0 := h0
  have lt0 : ∀ x ∈ p0, x.block < W.heap.size := by obtain ⟨m, hm⟩ := k0; exact DataW.trod_lt m _ _ _ hm
  obtain ⟨x0, hK0, hQ0⟩ : ∃ x : ByteArray, Kd.string.K W x v0.cells.toList ∧ x.size ≤ maxLen := by
    obtain ⟨fuel, hf⟩ := h0
    exact (opens_string Tryd.underlying9) enc W fuel _ _ hf
  obtain ⟨z0, rfl⟩ := okWide_string Tryd.underlying9 (hval 0 9 v0 rfl rfl)
  obtain rfl : z0 = x0 := by
    have e : [(.string z0 : Value)] = [.string x0] := hK0
    simpa using e
  have k1 := h1
  have lt1 : ∀ x ∈ p1, x.block < W.heap.size := by obtain ⟨m, hm⟩ := k1; exact DataW.trod_lt m _ _ _ hm
  obtain ⟨x1, hK1, hQ1⟩ : ∃ x : S36, k36.K W x v1.cells.toList ∧ (x.f0.size ≤ maxLen ∧ x.f1.size ≤ maxLen ∧ x.f2.size ≤ maxLen ∧ (x.f3.length ≤ maxLen ∧ ∀ y6, y6 ∈ x.f3 → y6.size ≤ maxLen)) := by
    obtain ⟨fuel, hf⟩ := h1
    exact (opens_struct (fun x : S36 => (x.f0, x.f1, x.f2, x.f3)) (fun p => (⟨p.1, p.2.1, p.2.2.1, p.2.2.2⟩ : S36)) (fun _ => rfl) Tryd.underlying36 (by kernel_rfl) (opensF_cons (by rfl) (by kernel_rfl) (opens_string Tryd.underlying9) (opensF_cons (by rfl) (by kernel_rfl) (opens_string Tryd.underlying9) (opensF_cons (by rfl) (by kernel_rfl) (opens_string Tryd.underlying9) (opensF_one (by rfl) (by kernel_rfl) (opens_slice (d := Kd.string) Tryd.underlying29 (by kernel_rfl) (opens_string Tryd.underlying9))))))) enc W fuel _ _ hf
  obtain ⟨cs1, rfl, _⟩ := okWide_struct Tryd.underlying36 (hval 1 36 v1 rfl rfl)
  obtain ⟨A1_3, c1_3, e1, hl1_3, hC1_3⟩ := k36_open hK1
  obtain rfl : cs1 = #[.string x1.f0, .string x1.f1, .string x1.f2, .slice A1_3 x1.f3.length c1_3] := by
    cases cs1; simpa [Value.cells] using e1
  clear hA0 hval0
  obtain ⟨k, hk⟩ := Pure.VersionParts z0 x1 hQ0 hQ1
  refine (graftwoodlaw03_VersionParts.calls k z0 x1.f0 x1.f1 x1.f2 _ _ x1.f3 true W hC1_3 hl1_3 hk rfl).mono fun e W' ⟨he, bel0⟩ => ?_
  have bel : Below W.heap.size W W' := bel0
  subst he
  exact ⟨_, rfl, _, _, _, [], _, [], hW', trodAll_mk1 (shut_bool Tryd.underlying4 _), (trodAll_cons_mk (Below.trod laidOut (by kernel_rfl) (of_decide_eq_true (by kernel_rfl)) k0 bel lt0) (trodAll_cons_mk (Below.trod laidOut (by kernel_rfl) (of_decide_eq_true (by kernel_rfl)) k1 bel lt1) trodAll_mk0)), rfl, bel.frame _, fun h => by cases h⟩
theorem over : Rows.versionPartsRow.holds Tryd.pinned (OpenSpec.ofChange Rows.versionPartsSpec) :=
  OpenClaim.holds_of_wide 6 Tryd.f6 rfl rfl rfl rfl rfl rfl rfl ⟨rfl, rfl, rfl, rfl, rfl⟩ rfl rfl rfl rfl rfl (by kernel_rfl) Tryd.func6 (by kernel_rfl)
    (of_decide_eq_true (by kernel_rfl)) (by unfold Func.isWrapper; first | (rw [if_pos (by decide +kernel)]; kernel_rfl) | (rw [if_neg (by decide +kernel)]; exact ⟨rfl, rfl⟩))
    (fun os started H enc _ => lifted os started H enc)
theorem card_over : Rows.VersionPartsCardSaid :=
  Claim7.holds_tied_plain_at .later [] [.data, .pinned] true (true, "3205ea723f8026631ca95b03eaff8f8002359e92f561495da53daf426e568876") false over (fun _ h => by cases h) (by kernel_rfl) (fun _ h => by cases h) versionParts_row_tie rfl ⟨rfl, rfl⟩ (by kernel_rfl) rfl
    (fun f fn hf hfn => by
      obtain rfl : f = 6 := Option.some.inj ((show Tryd.prog.funcNamed "graftwood/graftwoodlaw03.VersionParts" = some 6 by kernel_rfl).symm.trans hf) |>.symm
      obtain rfl : fn = Tryd.f6 := (Option.some.inj (Tryd.func6.symm.trans hfn)).symm
      exact ⟨by kernel_rfl, fun j t ht => by
        rw [Tryd.params6] at ht
        have hm : t ∈ [9, 36] := by simpa using Array.mem_of_getElem? ht
        have hall : ([9, 36].all fun u => !Tryd.prog.wantsStandIn u) = true := by kernel_rfl
        exact (show Tryd.prog.wantsStandIn t = false by simpa using List.all_eq_true.1 hall t hm)⟩)
    (by kernel_rfl)
#print axioms card_over
end Go.Proofs.YtjadpeahoaogcaaDoor.versionParts
namespace Go.Proofs.YtjadpeahoaogcaaDoor
/-- The card, under a short name, for the claim. -/
theorem versionParts_holds : Rows.VersionPartsCardSaid := versionParts.card_over
end Go.Proofs.YtjadpeahoaogcaaDoor
