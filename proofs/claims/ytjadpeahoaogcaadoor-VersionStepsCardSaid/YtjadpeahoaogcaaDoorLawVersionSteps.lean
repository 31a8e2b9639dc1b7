/- graftwood/graftwoodlaw03.VersionSteps: for every input that can be read as data the call returns true, and each argument reads as before; the listed package-level variables are as the program's text lays them (the card ties them). -/
import Derived.Test.YtjadpeahoaogcaaDoorCards
import Derived.Test.YtjadpeahoaogcaaDoorTie
import Derived.Test.YtjadpeahoaogcaaDoorOpens
import Derived.Test.YtjadpeahoaogcaaDoorPureVersionSteps
import Derived.Test.YtjadpeahoaogcaaDoorGVersionSteps
import Derived.Test.YtjadpeahoaogcaaDoorP17
import Derived.WalkKit
import Derived.ProofKit
import Derived.OpenShut
import Derived.ShutString
import Derived.ChangeOld
import Derived.Below
import Derived.Carry
import Derived.LaidMore
import Derived.Lay
import Derived.SevenTiedAt
import Derived.Stop.Joined
namespace Go.Proofs.YtjadpeahoaogcaaDoor.versionSteps
open Go.ChangeShapes Go.WideShapes Go.ChangeAt Go.RowKit Go.Proofs.YtjadpeahoaogcaaDoorO Go.Proofs.YtjadpeahoaogcaaDoor.P Go.Proofs.YtjadpeahoaogcaaDoorW.PrintWords
open Go.ChangeMaps (open_string shut_string)
set_option linter.unusedVariables false
set_option linter.unusedSimpArgs false
theorem own : ownKnob Tryd.prog.godebug = none := by kernel_rfl
theorem laidOut : laidOutB Tryd.prog = true := by kernel_rfl
abbrev laid : List (String × DataW Unit) := [("unicode/utf8.acceptRanges", Rows.laid_unicode_utf8_acceptRanges), ("unicode/utf8.first", Rows.laid_unicode_utf8_first)]
set_option maxRecDepth 100000 in
theorem lifted (os : Os) (started : os.Started) (H : Type) (enc : TypeId × Value → H) :
    ReturnsInHanded {} Tryd.checked os 8 .any (fun w args => (Rows.versionStepsSpec.pre enc Tryd.prog Tryd.f8 Rows.versionStepsRow.domain false w args ∧ laidMetH Tryd.prog laid w) ∧ sizedMet enc Tryd.prog Tryd.f8 (OpenSpec.ofChange Rows.versionStepsSpec) false w args)
      (Rows.versionStepsSpec.post enc Tryd.prog Tryd.f8 false true false false) := by
  refine returnsInHanded_of_change_and (C := Tryd.checked) (X := fun w _ => laidMetH Tryd.prog laid w) (fun _ _ _ hh h => h.of_heap hh) own started (by kernel_rfl) Tryd.func8
    (ChangeSpec.witness_shaped (enc := enc) (C := Tryd.checked) (os := os) (X := fun w _ => laidMetH Tryd.prog laid w) false (World.laidAll Tryd.prog os laid) #[.agg #[.string ByteArray.empty, .string ByteArray.empty, .string ByteArray.empty, .slice none 0 0], .string ByteArray.empty, .int .u8 0] 8 (World.laidAll_os _ _ _)
      (World.shaped_of_ZipB (by kernel_rfl) (by kernel_rfl)) (by kernel_rfl) (by kernel_rfl) (by kernel_rfl)
      (by rw [MakeChecks.laidMetH_plain _ _ _ (by kernel_rfl)]; exact laidMet_laidAll _ (by kernel_rfl) (by kernel_rfl))) ?_
  intro W base args ds gs before hval0 hW hcnd _ hL _
  have hval : ∀ (j : Nat) t v, Tryd.f8.params[j]? = some t → args[j]? = some v → Value.okWide Tryd.prog W .any base t v := hval0
  have hW' := hW
  obtain ⟨p, q, hA0, hV, rfl, hfz, hnd⟩ := hW
  have hA : DataW.TrodAll enc Tryd.prog W 0 (fun _ => true) true Tryd.f8.params.toList args.toList ds p := hA0
  rw [Tryd.params8] at hA hval
  obtain ⟨v0, vs0, d0, ds0, p0, q0, hargs, rfl, rfl, h0, r0⟩ := trodAll_cons hA
  obtain ⟨v1, vs1, d1, ds1, p1, q1, rfl, rfl, rfl, h1, r1⟩ := trodAll_cons r0
  obtain ⟨v2, vs2, d2, ds2, p2, q2, rfl, rfl, rfl, h2, r2⟩ := trodAll_cons r1
  obtain ⟨rfl, rfl, rfl⟩ := trodAll_nil r2
  obtain rfl : args = #[v0, v1, v2] := by cases args; simp_all
  obtain ⟨rfl, rfl⟩ := trodVars_none hV
  have k0 := h0
  have lt0 : ∀ x ∈ p0, x.block < W.heap.size := by obtain ⟨m, hm⟩ := k0; exact DataW.trod_lt m _ _ _ hm
  obtain ⟨x0, hK0, hQ0⟩ : ∃ x : S36, k36.K W x v0.cells.toList ∧ (x.f0.size ≤ maxLen ∧ x.f1.size ≤ maxLen ∧ x.f2.size ≤ maxLen ∧ (x.f3.length ≤ maxLen ∧ ∀ y2, y2 ∈ x.f3 → y2.size ≤ maxLen)) := by
    obtain ⟨fuel, hf⟩ := h0
    exact (opens_struct (fun x : S36 => (x.f0, x.f1, x.f2, x.f3)) (fun p => (⟨p.1, p.2.1, p.2.2.1, p.2.2.2⟩ : S36)) (fun _ => rfl) Tryd.underlying36 (by kernel_rfl) (opensF_cons (by rfl) (by kernel_rfl) (opens_string Tryd.underlying9) (opensF_cons (by rfl) (by kernel_rfl) (opens_string Tryd.underlying9) (opensF_cons (by rfl) (by kernel_rfl) (opens_string Tryd.underlying9) (opensF_one (by rfl) (by kernel_rfl) (opens_slice (d := Kd.string) Tryd.underlying29 (by kernel_rfl) (opens_string Tryd.underlying9))))))) enc W fuel _ _ hf
  obtain ⟨cs0, rfl, _⟩ := okWide_struct Tryd.underlying36 (hval 0 36 v0 rfl rfl)
  obtain ⟨A0_3, c0_3, e0, hl0_3, hC0_3⟩ := k36_open hK0
  obtain rfl : cs0 = #[.string x0.f0, .string x0.f1, .string x0.f2, .slice A0_3 x0.f3.length c0_3] := by
    cases cs0; simpa [Value.cells] using e0
  have k1 := h1
  have lt1 : ∀ x ∈ p1, x.block < W.heap.size := by obtain ⟨m, hm⟩ := k1; exact DataW.trod_lt m _ _ _ hm
  obtain ⟨x1, hK1, hQ1⟩ : ∃ x : ByteArray, Kd.string.K W x v1.cells.toList ∧ x.size ≤ maxLen := by
    obtain ⟨fuel, hf⟩ := h1
    exact (opens_string Tryd.underlying9) enc W fuel _ _ hf
  obtain ⟨z1, rfl⟩ := okWide_string Tryd.underlying9 (hval 1 9 v1 rfl rfl)
  obtain rfl : z1 = x1 := by
    have e : [(.string z1 : Value)] = [.string x1] := hK1
    simpa using e
  have k2 := h2
  have lt2 : ∀ x ∈ p2, x.block < W.heap.size := by obtain ⟨m, hm⟩ := k2; exact DataW.trod_lt m _ _ _ hm
  obtain ⟨x2, hK2, hQ2⟩ : ∃ x : Int, (Kd.int .u8).K W x v2.cells.toList ∧ (Lit.int .u8 x).wf = true := by
    obtain ⟨fuel, hf⟩ := h2
    exact (opens_int Tryd.underlying5) enc W fuel _ _ hf
  obtain ⟨z2, rfl⟩ := okWide_int Tryd.underlying5 (hval 2 5 v2 rfl rfl)
  obtain rfl : z2 = x2 := by
    have e : [(.int .u8 z2 : Value)] = [.int .u8 x2] := hK2
    simpa using e
  clear hA0 hval0
  obtain ⟨k, hk⟩ := Pure.VersionSteps x0 z1 z2 hQ0 hQ1 hQ2
  refine (graftwoodlaw03_VersionSteps.calls k x0.f0 x0.f1 x0.f2 _ _ x0.f3 z1 z2 true W hC0_3 hl0_3 hk rfl).mono fun e W' ⟨he, bel0⟩ => ?_
  have bel : Below W.heap.size W W' := bel0
  subst he
  exact ⟨_, rfl, _, _, _, [], _, [], hW', trodAll_mk1 (shut_bool Tryd.underlying4 _), (trodAll_cons_mk (Below.trod laidOut (by kernel_rfl) (of_decide_eq_true (by kernel_rfl)) k0 bel lt0) (trodAll_cons_mk (Below.trod laidOut (by kernel_rfl) (of_decide_eq_true (by kernel_rfl)) k1 bel lt1) (trodAll_cons_mk (Below.trod laidOut (by kernel_rfl) (of_decide_eq_true (by kernel_rfl)) k2 bel lt2) trodAll_mk0))), rfl, bel.frame _, fun h => by cases h⟩
theorem over : Rows.versionStepsRow.holds Tryd.pinned (OpenSpec.ofChange Rows.versionStepsSpec) :=
  OpenClaim.holds_of_wide 8 Tryd.f8 rfl rfl rfl rfl rfl rfl rfl ⟨rfl, rfl, rfl, rfl, rfl⟩ rfl rfl rfl rfl rfl (by kernel_rfl) Tryd.func8 (by kernel_rfl)
    (of_decide_eq_true (by kernel_rfl)) (by unfold Func.isWrapper; first | (rw [if_pos (by decide +kernel)]; kernel_rfl) | (rw [if_neg (by decide +kernel)]; exact ⟨rfl, rfl⟩))
    (fun os started H enc _ => lifted os started H enc)
theorem card_over : Rows.VersionStepsCardSaid :=
  Claim7.holds_tied_plain_at .later [] [.data, .pinned] true (true, "3205ea723f8026631ca95b03eaff8f8002359e92f561495da53daf426e568876") false over (fun _ h => by cases h) (by kernel_rfl) (fun _ h => by cases h) versionSteps_row_tie rfl ⟨rfl, rfl⟩ (by kernel_rfl) rfl
    (fun f fn hf hfn => by
      obtain rfl : f = 8 := Option.some.inj ((show Tryd.prog.funcNamed "graftwood/graftwoodlaw03.VersionSteps" = some 8 by kernel_rfl).symm.trans hf) |>.symm
      obtain rfl : fn = Tryd.f8 := (Option.some.inj (Tryd.func8.symm.trans hfn)).symm
      exact ⟨by kernel_rfl, fun j t ht => by
        rw [Tryd.params8] at ht
        have hm : t ∈ [36, 9, 5] := by simpa using Array.mem_of_getElem? ht
        have hall : ([36, 9, 5].all fun u => !Tryd.prog.wantsStandIn u) = true := by kernel_rfl
        exact (show Tryd.prog.wantsStandIn t = false by simpa using List.all_eq_true.1 hall t hm)⟩)
    (by kernel_rfl)
#print axioms card_over
end Go.Proofs.YtjadpeahoaogcaaDoor.versionSteps
namespace Go.Proofs.YtjadpeahoaogcaaDoor
/-- The card, under a short name, for the claim. -/
theorem versionSteps_holds : Rows.VersionStepsCardSaid := versionSteps.card_over
end Go.Proofs.YtjadpeahoaogcaaDoor
