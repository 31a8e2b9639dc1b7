/- graftwood/graftwoodlaw15.ReachOf: for every input that can be read as data the call returns true, and each argument reads as before; the listed package-level variables are as the program's text lays them (the card ties them). -/
import Derived.Test.YtpiamehededilaaRows
import Derived.Test.YtpiamehededilaaOpens
import Derived.Test.YtpiamehededilaaPureReachOf
import Derived.Test.YtpiamehededilaaGReachOf
import Derived.Test.YtpiamehededilaaP21
import Derived.WalkKit
import Derived.ProofKit
import Derived.OpenShut
import Derived.ShutString
import Derived.ChangeOld
import Derived.Below
import Derived.Carry
import Derived.LaidMore
import Derived.Lay
import Derived.SevenTiedAt
import Derived.Stop.Joined
namespace Go.Proofs.Ytpiamehededilaa.reachOf
open Go.ChangeShapes Go.WideShapes Go.ChangeAt Go.RowKit Go.Proofs.YtpiamehededilaaO Go.Proofs.Ytpiamehededilaa.P Go.Proofs.YtpiamehededilaaW.PrintWords
open Go.ChangeMaps (open_string shut_string)
set_option linter.unusedVariables false
set_option linter.unusedSimpArgs false
theorem own : ownKnob Try.prog.godebug = none := by kernel_rfl
theorem laidOut : laidOutB Try.prog = true := by kernel_rfl
set_option maxRecDepth 100000 in
theorem lifted (os : Os) (started : os.Started) (H : Type) (enc : TypeId × Value → H) :
    ReturnsInHanded {} Try.checked os 6 .any (Rows.reachOfSpec.pre6 enc Try.prog Try.f6 Rows.reachOfRow.domain false) (Rows.reachOfSpec.post enc Try.prog Try.f6 false true false false) := by
  refine returnsInHanded_of_change (C := Try.checked) own started (by kernel_rfl) Try.func6
    (ChangeSpec.witness6 (enc := enc) (C := Try.checked) false ⟨#[], #[.slice none 0 0, .agg #[.slice none 0 0, .slice none 0 0]], []⟩ 8 (by kernel_rfl) (by kernel_rfl) (by kernel_rfl) (by kernel_rfl)) ?_
  intro W base args ds gs before hval0 hW hcnd _
  have hval : ∀ (j : Nat) t v, Try.f6.params[j]? = some t → args[j]? = some v → Value.okWide Try.prog W .any base t v := hval0
  have hW' := hW
  obtain ⟨p, q, hA0, hV, rfl, hfz, hnd⟩ := hW
  have hA : DataW.TrodAll enc Try.prog W 0 (fun _ => true) true Try.f6.params.toList args.toList ds p := hA0
  rw [Try.params6] at hA hval
  obtain ⟨v0, vs0, d0, ds0, p0, q0, hargs, rfl, rfl, h0, r0⟩ := trodAll_cons hA
  obtain ⟨v1, vs1, d1, ds1, p1, q1, rfl, rfl, rfl, h1, r1⟩ := trodAll_cons r0
  obtain ⟨rfl, rfl, rfl⟩ := trodAll_nil r1
  obtain rfl : args = #[v0, v1] := by cases args; simp_all
  obtain ⟨rfl, rfl⟩ := trodVars_none hV
  have k0 := h0
  have lt0 : ∀ x ∈ p0, x.block < W.heap.size := by obtain ⟨m, hm⟩ := k0; exact DataW.trod_lt m _ _ _ hm
  obtain ⟨x0, hK0, hQ0⟩ : ∃ x : List (S36), (Kd.slice 36 k36).K W x v0.cells.toList ∧ (x.length ≤ maxLen ∧ ∀ y14, y14 ∈ x → ((Lit.int .i64 y14.f0).wf = true ∧ (Lit.int .i64 y14.f1).wf = true ∧ (Lit.int .i64 y14.f2).wf = true)) := by
    obtain ⟨fuel, hf⟩ := h0
    exact (opens_slice (d := k36) Try.underlying22 (by kernel_rfl) (opens_struct (fun x : S36 => (x.f0, x.f1, x.f2)) (fun p => (⟨p.1, p.2.1, p.2.2⟩ : S36)) (fun _ => rfl) Try.underlying36 (by kernel_rfl) (opensF_cons (by rfl) (by kernel_rfl) (opens_int Try.underlying3) (opensF_cons (by rfl) (by kernel_rfl) (opens_int Try.underlying3) (opensF_one (by rfl) (by kernel_rfl) (opens_int Try.underlying3)))))) enc W fuel _ _ hf
  obtain ⟨a0, len0, cap0, rfl⟩ := okWide_slice Try.underlying22 (hval 0 22 v0 rfl rfl)
  obtain ⟨A0_0, c0_0, e0, hl0_0, hC0_0⟩ := hK0
  simp [Value.cells] at e0
  obtain ⟨rfl, rfl, rfl⟩ := e0
  have k1 := h1
  have lt1 : ∀ x ∈ p1, x.block < W.heap.size := by obtain ⟨m, hm⟩ := k1; exact DataW.trod_lt m _ _ _ hm
  obtain ⟨x1, hK1, hQ1⟩ : ∃ x : S25, k25.K W x v1.cells.toList ∧ ((x.f0.length ≤ maxLen ∧ ∀ y16, y16 ∈ x.f0 → ((Lit.int .i64 y16.f0).wf = true ∧ (Lit.int .i64 y16.f1).wf = true ∧ (Lit.int .i64 y16.f2).wf = true)) ∧ (x.f1.length ≤ maxLen ∧ ∀ y15, y15 ∈ x.f1 → (Lit.int .i64 y15).wf = true)) := by
    obtain ⟨fuel, hf⟩ := h1
    exact (opens_struct (fun x : S25 => (x.f0, x.f1)) (fun p => (⟨p.1, p.2⟩ : S25)) (fun _ => rfl) Try.underlying25 (by kernel_rfl) (opensF_cons (by rfl) (by kernel_rfl) (opens_slice (d := k36) Try.underlying22 (by kernel_rfl) (opens_struct (fun x : S36 => (x.f0, x.f1, x.f2)) (fun p => (⟨p.1, p.2.1, p.2.2⟩ : S36)) (fun _ => rfl) Try.underlying36 (by kernel_rfl) (opensF_cons (by rfl) (by kernel_rfl) (opens_int Try.underlying3) (opensF_cons (by rfl) (by kernel_rfl) (opens_int Try.underlying3) (opensF_one (by rfl) (by kernel_rfl) (opens_int Try.underlying3)))))) (opensF_one (by rfl) (by kernel_rfl) (opens_slice (d := (Kd.int .i64)) Try.underlying23 (by kernel_rfl) (opens_int Try.underlying3))))) enc W fuel _ _ hf
  obtain ⟨cs1, rfl, _⟩ := okWide_struct Try.underlying25 (hval 1 25 v1 rfl rfl)
  obtain ⟨A1_0, c1_0, A1_1, c1_1, e1, hl1_0, hC1_0, hl1_1, hC1_1⟩ := k25_open hK1
  obtain rfl : cs1 = #[.slice A1_0 x1.f0.length c1_0, .slice A1_1 x1.f1.length c1_1] := by
    cases cs1; simpa [Value.cells] using e1
  clear hA0 hval0
  obtain ⟨k, hk⟩ := Pure.ReachOf x0 x1 hQ0 hQ1
  refine (graftwoodlaw15_ReachOf.calls k _ _ x0 _ _ x1.f0 _ _ x1.f1 true W hC0_0 hl0_0 hC1_0 hl1_0 hC1_1 hl1_1 hk rfl).mono fun e W' ⟨he, bel0⟩ => ?_
  have bel : Below W.heap.size W W' := bel0
  subst he
  exact ⟨_, rfl, _, _, _, [], _, [], hW', trodAll_mk1 (shut_bool Try.underlying4 _), (trodAll_cons_mk (Below.trod laidOut (by kernel_rfl) (of_decide_eq_true (by kernel_rfl)) k0 bel lt0) (trodAll_cons_mk (Below.trod laidOut (by kernel_rfl) (of_decide_eq_true (by kernel_rfl)) k1 bel lt1) trodAll_mk0)), rfl, bel.frame _, fun h => by cases h⟩
theorem over : Rows.reachOfRow.holds Try.pinned (OpenSpec.ofChange Rows.reachOfSpec) :=
  OpenClaim.holds_of_wide 6 Try.f6 rfl rfl rfl rfl rfl rfl rfl ⟨rfl, rfl, rfl, rfl, rfl⟩ rfl rfl rfl rfl rfl (by kernel_rfl) Try.func6 (by kernel_rfl)
    (of_decide_eq_true (by kernel_rfl)) (by unfold Func.isWrapper; first | (rw [if_pos (by decide +kernel)]; kernel_rfl) | (rw [if_neg (by decide +kernel)]; exact ⟨rfl, rfl⟩))
    (fun os started H enc _ => lifted os started H enc)
end Go.Proofs.Ytpiamehededilaa.reachOf
namespace Go.Proofs.Ytpiamehededilaa
/-- The row, under a short name, for the claim. -/
theorem reachOf_holds : Rows.ReachOfSaid := reachOf.over
end Go.Proofs.Ytpiamehededilaa
