/- graftwood/graftwoodlaw12.StoreGets: for every input that can be read as data the call returns true, and each argument reads as before; the listed package-level variables are as the program's text lays them (the card ties them). -/
import Derived.Test.YtomjppafgalaoaaDoorCards
import Derived.Test.YtomjppafgalaoaaDoorTie
import Derived.Test.YtomjppafgalaoaaDoorOpens
import Derived.Test.YtomjppafgalaoaaDoorPureStoreGets
import Derived.Test.YtomjppafgalaoaaDoorGStoreGets
import Derived.Test.YtomjppafgalaoaaDoorP25
import Derived.WalkKit
import Derived.ProofKit
import Derived.OpenShut
import Derived.ShutString
import Derived.ChangeOld
import Derived.Below
import Derived.Carry
import Derived.LaidMore
import Derived.Lay
import Derived.SevenTiedAt
import Derived.Stop.Joined
namespace Go.Proofs.YtomjppafgalaoaaDoor.storeGets
open Go.ChangeShapes Go.WideShapes Go.ChangeAt Go.RowKit Go.Proofs.YtomjppafgalaoaaDoorO Go.Proofs.YtomjppafgalaoaaDoor.P Go.Proofs.YtomjppafgalaoaaDoorW.PrintWords
open Go.ChangeMaps (open_string shut_string)
set_option linter.unusedVariables false
set_option linter.unusedSimpArgs false
theorem own : ownKnob Tryd.prog.godebug = none := by kernel_rfl
theorem laidOut : laidOutB Tryd.prog = true := by kernel_rfl
abbrev laid : List (String × DataW Unit) := [("unicode/utf8.acceptRanges", Rows.laid_unicode_utf8_acceptRanges), ("unicode/utf8.first", Rows.laid_unicode_utf8_first)]
set_option maxRecDepth 100000 in
theorem lifted (os : Os) (started : os.Started) (H : Type) (enc : TypeId × Value → H) :
    ReturnsInHanded {} Tryd.checked os 3 .any (fun w args => (Rows.storeGetsSpec.pre enc Tryd.prog Tryd.f3 Rows.storeGetsRow.domain false w args ∧ laidMetH Tryd.prog laid w) ∧ sizedMet enc Tryd.prog Tryd.f3 (OpenSpec.ofChange Rows.storeGetsSpec) false w args)
      (Rows.storeGetsSpec.post enc Tryd.prog Tryd.f3 false true false false) := by
  refine returnsInHanded_of_change_and (C := Tryd.checked) (X := fun w _ => laidMetH Tryd.prog laid w) (fun _ _ _ hh h => h.of_heap hh) own started (by kernel_rfl) Tryd.func3
    (ChangeSpec.witness_shaped (enc := enc) (C := Tryd.checked) (os := os) (X := fun w _ => laidMetH Tryd.prog laid w) false (World.laidAll Tryd.prog os laid) #[.agg #[.slice none 0 0, .slice none 0 0, .string ByteArray.empty, .string ByteArray.empty, .string ByteArray.empty, .string ByteArray.empty, .string ByteArray.empty]] 8 (World.laidAll_os _ _ _)
      (World.shaped_of_ZipB (by kernel_rfl) (by kernel_rfl)) (by kernel_rfl) (by kernel_rfl) (by kernel_rfl)
      (by rw [MakeChecks.laidMetH_plain _ _ _ (by kernel_rfl)]; exact laidMet_laidAll _ (by kernel_rfl) (by kernel_rfl))) ?_
  intro W base args ds gs before hval0 hW hcnd _ hL _
  have hval : ∀ (j : Nat) t v, Tryd.f3.params[j]? = some t → args[j]? = some v → Value.okWide Tryd.prog W .any base t v := hval0
  have hW' := hW
  obtain ⟨p, q, hA0, hV, rfl, hfz, hnd⟩ := hW
  have hA : DataW.TrodAll enc Tryd.prog W 0 (fun _ => true) true Tryd.f3.params.toList args.toList ds p := hA0
  rw [Tryd.params3] at hA hval
  obtain ⟨v0, vs0, d0, ds0, p0, q0, hargs, rfl, rfl, h0, r0⟩ := trodAll_cons hA
  obtain ⟨rfl, rfl, rfl⟩ := trodAll_nil r0
  obtain rfl : args = #[v0] := by cases args; simp_all
  obtain ⟨rfl, rfl⟩ := trodVars_none hV
  have k0 := h0
  have lt0 : ∀ x ∈ p0, x.block < W.heap.size := by obtain ⟨m, hm⟩ := k0; exact DataW.trod_lt m _ _ _ hm
  obtain ⟨x0, hK0, hQ0⟩ : ∃ x : S29, k29.K W x v0.cells.toList ∧ (((x.f0.f0.length ≤ maxLen ∧ ∀ y4, y4 ∈ x.f0.f0 → (y4.f0.size ≤ maxLen ∧ y4.f1.size ≤ maxLen)) ∧ (x.f0.f1.length ≤ maxLen ∧ ∀ y3, y3 ∈ x.f0.f1 → y3.size ≤ maxLen)) ∧ (x.f1.f0.size ≤ maxLen ∧ x.f1.f1.size ≤ maxLen) ∧ (x.f2.f0.size ≤ maxLen ∧ x.f2.f1.size ≤ maxLen) ∧ x.f3.size ≤ maxLen) := by
    obtain ⟨fuel, hf⟩ := h0
    exact (opens_struct (fun x : S29 => (x.f0, x.f1, x.f2, x.f3)) (fun p => (⟨p.1, p.2.1, p.2.2.1, p.2.2.2⟩ : S29)) (fun _ => rfl) Tryd.underlying29 (by kernel_rfl) (opensF_cons (by rfl) (by kernel_rfl) (opens_struct (fun x : S25 => (x.f0, x.f1)) (fun p => (⟨p.1, p.2⟩ : S25)) (fun _ => rfl) Tryd.underlying25 (by kernel_rfl) (opensF_cons (by rfl) (by kernel_rfl) (opens_slice (d := k27) Tryd.underlying22 (by kernel_rfl) (opens_struct (fun x : S27 => (x.f0, x.f1)) (fun p => (⟨p.1, p.2⟩ : S27)) (fun _ => rfl) Tryd.underlying27 (by kernel_rfl) (opensF_cons (by rfl) (by kernel_rfl) (opens_string Tryd.underlying9) (opensF_one (by rfl) (by kernel_rfl) (opens_string Tryd.underlying9))))) (opensF_one (by rfl) (by kernel_rfl) (opens_slice (d := Kd.string) Tryd.underlying23 (by kernel_rfl) (opens_string Tryd.underlying9))))) (opensF_cons (by rfl) (by kernel_rfl) (opens_struct (fun x : S27 => (x.f0, x.f1)) (fun p => (⟨p.1, p.2⟩ : S27)) (fun _ => rfl) Tryd.underlying27 (by kernel_rfl) (opensF_cons (by rfl) (by kernel_rfl) (opens_string Tryd.underlying9) (opensF_one (by rfl) (by kernel_rfl) (opens_string Tryd.underlying9)))) (opensF_cons (by rfl) (by kernel_rfl) (opens_struct (fun x : S27 => (x.f0, x.f1)) (fun p => (⟨p.1, p.2⟩ : S27)) (fun _ => rfl) Tryd.underlying27 (by kernel_rfl) (opensF_cons (by rfl) (by kernel_rfl) (opens_string Tryd.underlying9) (opensF_one (by rfl) (by kernel_rfl) (opens_string Tryd.underlying9)))) (opensF_one (by rfl) (by kernel_rfl) (opens_string Tryd.underlying9)))))) enc W fuel _ _ hf
  obtain ⟨cs0, rfl, _⟩ := okWide_struct Tryd.underlying29 (hval 0 29 v0 rfl rfl)
  obtain ⟨A0_0, c0_0, A0_1, c0_1, e0, hl0_0, hC0_0, hl0_1, hC0_1⟩ := k29_open hK0
  obtain rfl : cs0 = #[.slice A0_0 x0.f0.f0.length c0_0, .slice A0_1 x0.f0.f1.length c0_1, .string x0.f1.f0, .string x0.f1.f1, .string x0.f2.f0, .string x0.f2.f1, .string x0.f3] := by
    cases cs0; simpa [Value.cells] using e0
  clear hA0 hval0
  obtain ⟨k, hk⟩ := Pure.StoreGets x0 hQ0
  refine (graftwoodlaw12_StoreGets.calls k _ _ x0.f0.f0 _ _ x0.f0.f1 x0.f1.f0 x0.f1.f1 x0.f2.f0 x0.f2.f1 x0.f3 true W hC0_0 hl0_0 hC0_1 hl0_1 hk rfl).mono fun e W' ⟨he, bel0⟩ => ?_
  have bel : Below W.heap.size W W' := bel0
  subst he
  exact ⟨_, rfl, _, _, _, [], _, [], hW', trodAll_mk1 (shut_bool Tryd.underlying4 _), (trodAll_cons_mk (Below.trod laidOut (by kernel_rfl) (of_decide_eq_true (by kernel_rfl)) k0 bel lt0) trodAll_mk0), rfl, bel.frame _, fun h => by cases h⟩
theorem over : Rows.storeGetsRow.holds Tryd.pinned (OpenSpec.ofChange Rows.storeGetsSpec) :=
  OpenClaim.holds_of_wide 3 Tryd.f3 rfl rfl rfl rfl rfl rfl rfl ⟨rfl, rfl, rfl, rfl, rfl⟩ rfl rfl rfl rfl rfl (by kernel_rfl) Tryd.func3 (by kernel_rfl)
    (of_decide_eq_true (by kernel_rfl)) (by unfold Func.isWrapper; first | (rw [if_pos (by decide +kernel)]; kernel_rfl) | (rw [if_neg (by decide +kernel)]; exact ⟨rfl, rfl⟩))
    (fun os started H enc _ => lifted os started H enc)
theorem card_over : Rows.StoreGetsCardSaid :=
  Claim7.holds_tied_plain_at .later [] [.data, .pinned] true (true, "3e0cb7110a789aabbaa9c85d2778cc7e3db305b2f34020a114db829fd27f038a") false over (fun _ h => by cases h) (by kernel_rfl) (fun _ h => by cases h) storeGets_row_tie rfl ⟨rfl, rfl⟩ (by kernel_rfl) rfl
    (fun f fn hf hfn => by
      obtain rfl : f = 3 := Option.some.inj ((show Tryd.prog.funcNamed "graftwood/graftwoodlaw12.StoreGets" = some 3 by kernel_rfl).symm.trans hf) |>.symm
      obtain rfl : fn = Tryd.f3 := (Option.some.inj (Tryd.func3.symm.trans hfn)).symm
      exact ⟨by kernel_rfl, fun j t ht => by
        rw [Tryd.params3] at ht
        have hm : t ∈ [29] := by simpa using Array.mem_of_getElem? ht
        have hall : ([29].all fun u => !Tryd.prog.wantsStandIn u) = true := by kernel_rfl
        exact (show Tryd.prog.wantsStandIn t = false by simpa using List.all_eq_true.1 hall t hm)⟩)
    (by kernel_rfl)
#print axioms card_over
end Go.Proofs.YtomjppafgalaoaaDoor.storeGets
namespace Go.Proofs.YtomjppafgalaoaaDoor
/-- The card, under a short name, for the claim. -/
theorem storeGets_holds : Rows.StoreGetsCardSaid := storeGets.card_over
end Go.Proofs.YtomjppafgalaoaaDoor
