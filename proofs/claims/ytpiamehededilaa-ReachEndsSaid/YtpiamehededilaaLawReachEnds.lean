/- graftwood/graftwoodlaw15.ReachEnds: for every input that can be read as data the call returns true, and each argument reads as before; the listed package-level variables are as the program's text lays them (the card ties them). -/
import Derived.Test.YtpiamehededilaaRows
import Derived.Test.YtpiamehededilaaOpens
import Derived.Test.YtpiamehededilaaPureReachEnds
import Derived.Test.YtpiamehededilaaGReachEnds
import Derived.Test.YtpiamehededilaaP19
import Derived.WalkKit
import Derived.ProofKit
import Derived.OpenShut
import Derived.ShutString
import Derived.ChangeOld
import Derived.Below
import Derived.Carry
import Derived.LaidMore
import Derived.Lay
import Derived.SevenTiedAt
import Derived.Stop.Joined
namespace Go.Proofs.Ytpiamehededilaa.reachEnds
open Go.ChangeShapes Go.WideShapes Go.ChangeAt Go.RowKit Go.Proofs.YtpiamehededilaaO Go.Proofs.Ytpiamehededilaa.P Go.Proofs.YtpiamehededilaaW.PrintWords
open Go.ChangeMaps (open_string shut_string)
set_option linter.unusedVariables false
set_option linter.unusedSimpArgs false
theorem own : ownKnob Try.prog.godebug = none := by kernel_rfl
theorem laidOut : laidOutB Try.prog = true := by kernel_rfl
set_option maxRecDepth 100000 in
theorem lifted (os : Os) (started : os.Started) (H : Type) (enc : TypeId × Value → H) :
    ReturnsInHanded {} Try.checked os 5 .any (Rows.reachEndsSpec.pre6 enc Try.prog Try.f5 Rows.reachEndsRow.domain false) (Rows.reachEndsSpec.post enc Try.prog Try.f5 false true false false) := by
  refine returnsInHanded_of_change (C := Try.checked) own started (by kernel_rfl) Try.func5
    (ChangeSpec.witness6 (enc := enc) (C := Try.checked) false ⟨#[], #[.slice none 0 0], []⟩ 8 (by kernel_rfl) (by kernel_rfl) (by kernel_rfl) (by kernel_rfl)) ?_
  intro W base args ds gs before hval0 hW hcnd _
  have hval : ∀ (j : Nat) t v, Try.f5.params[j]? = some t → args[j]? = some v → Value.okWide Try.prog W .any base t v := hval0
  have hW' := hW
  obtain ⟨p, q, hA0, hV, rfl, hfz, hnd⟩ := hW
  have hA : DataW.TrodAll enc Try.prog W 0 (fun _ => true) true Try.f5.params.toList args.toList ds p := hA0
  rw [Try.params5] at hA hval
  obtain ⟨v0, vs0, d0, ds0, p0, q0, hargs, rfl, rfl, h0, r0⟩ := trodAll_cons hA
  obtain ⟨rfl, rfl, rfl⟩ := trodAll_nil r0
  obtain rfl : args = #[v0] := by cases args; simp_all
  obtain ⟨rfl, rfl⟩ := trodVars_none hV
  have k0 := h0
  have lt0 : ∀ x ∈ p0, x.block < W.heap.size := by obtain ⟨m, hm⟩ := k0; exact DataW.trod_lt m _ _ _ hm
  obtain ⟨x0, hK0, hQ0⟩ : ∃ x : List (S36), (Kd.slice 36 k36).K W x v0.cells.toList ∧ (x.length ≤ maxLen ∧ ∀ y10, y10 ∈ x → ((Lit.int .i64 y10.f0).wf = true ∧ (Lit.int .i64 y10.f1).wf = true ∧ (Lit.int .i64 y10.f2).wf = true)) := by
    obtain ⟨fuel, hf⟩ := h0
    exact (opens_slice (d := k36) Try.underlying22 (by kernel_rfl) (opens_struct (fun x : S36 => (x.f0, x.f1, x.f2)) (fun p => (⟨p.1, p.2.1, p.2.2⟩ : S36)) (fun _ => rfl) Try.underlying36 (by kernel_rfl) (opensF_cons (by rfl) (by kernel_rfl) (opens_int Try.underlying3) (opensF_cons (by rfl) (by kernel_rfl) (opens_int Try.underlying3) (opensF_one (by rfl) (by kernel_rfl) (opens_int Try.underlying3)))))) enc W fuel _ _ hf
  obtain ⟨a0, len0, cap0, rfl⟩ := okWide_slice Try.underlying22 (hval 0 22 v0 rfl rfl)
  obtain ⟨A0_0, c0_0, e0, hl0_0, hC0_0⟩ := hK0
  simp [Value.cells] at e0
  obtain ⟨rfl, rfl, rfl⟩ := e0
  clear hA0 hval0
  obtain ⟨k, hk⟩ := Pure.ReachEnds x0 hQ0
  refine (graftwoodlaw15_ReachEnds.calls k _ _ x0 true W hC0_0 hl0_0 hk rfl).mono fun e W' ⟨he, bel0⟩ => ?_
  have bel : Below W.heap.size W W' := bel0
  subst he
  exact ⟨_, rfl, _, _, _, [], _, [], hW', trodAll_mk1 (shut_bool Try.underlying4 _), (trodAll_cons_mk (Below.trod laidOut (by kernel_rfl) (of_decide_eq_true (by kernel_rfl)) k0 bel lt0) trodAll_mk0), rfl, bel.frame _, fun h => by cases h⟩
theorem over : Rows.reachEndsRow.holds Try.pinned (OpenSpec.ofChange Rows.reachEndsSpec) :=
  OpenClaim.holds_of_wide 5 Try.f5 rfl rfl rfl rfl rfl rfl rfl ⟨rfl, rfl, rfl, rfl, rfl⟩ rfl rfl rfl rfl rfl (by kernel_rfl) Try.func5 (by kernel_rfl)
    (of_decide_eq_true (by kernel_rfl)) (by unfold Func.isWrapper; first | (rw [if_pos (by decide +kernel)]; kernel_rfl) | (rw [if_neg (by decide +kernel)]; exact ⟨rfl, rfl⟩))
    (fun os started H enc _ => lifted os started H enc)
end Go.Proofs.Ytpiamehededilaa.reachEnds
namespace Go.Proofs.Ytpiamehededilaa
/-- The row, under a short name, for the claim. -/
theorem reachEnds_holds : Rows.ReachEndsSaid := reachEnds.over
end Go.Proofs.Ytpiamehededilaa
