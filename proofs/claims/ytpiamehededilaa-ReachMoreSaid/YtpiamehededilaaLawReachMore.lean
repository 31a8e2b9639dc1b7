/- graftwood/graftwoodlaw15.ReachMore: for every input that can be read as data the call returns true, and each argument reads as before; the listed package-level variables are as the program's text lays them (the card ties them). -/
import Derived.Test.YtpiamehededilaaRows
import Derived.Test.YtpiamehededilaaOpens
import Derived.Test.YtpiamehededilaaPureReachMore
import Derived.Test.YtpiamehededilaaGReachMore
import Derived.Test.YtpiamehededilaaP23
import Derived.WalkKit
import Derived.ProofKit
import Derived.OpenShut
import Derived.ShutString
import Derived.ChangeOld
import Derived.Below
import Derived.Carry
import Derived.LaidMore
import Derived.Lay
import Derived.SevenTiedAt
import Derived.Stop.Joined
namespace Go.Proofs.Ytpiamehededilaa.reachMore
open Go.ChangeShapes Go.WideShapes Go.ChangeAt Go.RowKit Go.Proofs.YtpiamehededilaaO Go.Proofs.Ytpiamehededilaa.P Go.Proofs.YtpiamehededilaaW.PrintWords
open Go.ChangeMaps (open_string shut_string)
set_option linter.unusedVariables false
set_option linter.unusedSimpArgs false
theorem own : ownKnob Try.prog.godebug = none := by kernel_rfl
theorem laidOut : laidOutB Try.prog = true := by kernel_rfl
set_option maxRecDepth 100000 in
theorem lifted (os : Os) (started : os.Started) (H : Type) (enc : TypeId × Value → H) :
    ReturnsInHanded {} Try.checked os 8 .any (Rows.reachMoreSpec.pre6 enc Try.prog Try.f8 Rows.reachMoreRow.domain false) (Rows.reachMoreSpec.post enc Try.prog Try.f8 false true false false) := by
  refine returnsInHanded_of_change (C := Try.checked) own started (by kernel_rfl) Try.func8
    (ChangeSpec.witness6 (enc := enc) (C := Try.checked) false ⟨#[], #[.agg #[.slice none 0 0, .slice none 0 0], .int .i64 0, .int .i64 0], []⟩ 8 (by kernel_rfl) (by kernel_rfl) (by kernel_rfl) (by kernel_rfl)) ?_
  intro W base args ds gs before hval0 hW hcnd _
  have hval : ∀ (j : Nat) t v, Try.f8.params[j]? = some t → args[j]? = some v → Value.okWide Try.prog W .any base t v := hval0
  have hW' := hW
  obtain ⟨p, q, hA0, hV, rfl, hfz, hnd⟩ := hW
  have hA : DataW.TrodAll enc Try.prog W 0 (fun _ => true) true Try.f8.params.toList args.toList ds p := hA0
  rw [Try.params8] at hA hval
  obtain ⟨v0, vs0, d0, ds0, p0, q0, hargs, rfl, rfl, h0, r0⟩ := trodAll_cons hA
  obtain ⟨v1, vs1, d1, ds1, p1, q1, rfl, rfl, rfl, h1, r1⟩ := trodAll_cons r0
  obtain ⟨v2, vs2, d2, ds2, p2, q2, rfl, rfl, rfl, h2, r2⟩ := trodAll_cons r1
  obtain ⟨rfl, rfl, rfl⟩ := trodAll_nil r2
  obtain rfl : args = #[v0, v1, v2] := by cases args; simp_all
  obtain ⟨rfl, rfl⟩ := trodVars_none hV
  have k0 := h0
  have lt0 : ∀ x ∈ p0, x.block < W.heap.size := by obtain ⟨m, hm⟩ := k0; exact DataW.trod_lt m _ _ _ hm
  obtain ⟨x0, hK0, hQ0⟩ : ∃ x : S25, k25.K W x v0.cells.toList ∧ ((x.f0.length ≤ maxLen ∧ ∀ y20, y20 ∈ x.f0 → ((Lit.int .i64 y20.f0).wf = true ∧ (Lit.int .i64 y20.f1).wf = true ∧ (Lit.int .i64 y20.f2).wf = true)) ∧ (x.f1.length ≤ maxLen ∧ ∀ y19, y19 ∈ x.f1 → (Lit.int .i64 y19).wf = true)) := by
    obtain ⟨fuel, hf⟩ := h0
    exact (opens_struct (fun x : S25 => (x.f0, x.f1)) (fun p => (⟨p.1, p.2⟩ : S25)) (fun _ => rfl) Try.underlying25 (by kernel_rfl) (opensF_cons (by rfl) (by kernel_rfl) (opens_slice (d := k36) Try.underlying22 (by kernel_rfl) (opens_struct (fun x : S36 => (x.f0, x.f1, x.f2)) (fun p => (⟨p.1, p.2.1, p.2.2⟩ : S36)) (fun _ => rfl) Try.underlying36 (by kernel_rfl) (opensF_cons (by rfl) (by kernel_rfl) (opens_int Try.underlying3) (opensF_cons (by rfl) (by kernel_rfl) (opens_int Try.underlying3) (opensF_one (by rfl) (by kernel_rfl) (opens_int Try.underlying3)))))) (opensF_one (by rfl) (by kernel_rfl) (opens_slice (d := (Kd.int .i64)) Try.underlying23 (by kernel_rfl) (opens_int Try.underlying3))))) enc W fuel _ _ hf
  obtain ⟨cs0, rfl, _⟩ := okWide_struct Try.underlying25 (hval 0 25 v0 rfl rfl)
  obtain ⟨A0_0, c0_0, A0_1, c0_1, e0, hl0_0, hC0_0, hl0_1, hC0_1⟩ := k25_open hK0
  obtain rfl : cs0 = #[.slice A0_0 x0.f0.length c0_0, .slice A0_1 x0.f1.length c0_1] := by
    cases cs0; simpa [Value.cells] using e0
  have k1 := h1
  have lt1 : ∀ x ∈ p1, x.block < W.heap.size := by obtain ⟨m, hm⟩ := k1; exact DataW.trod_lt m _ _ _ hm
  obtain ⟨x1, hK1, hQ1⟩ : ∃ x : Int, (Kd.int .i64).K W x v1.cells.toList ∧ (Lit.int .i64 x).wf = true := by
    obtain ⟨fuel, hf⟩ := h1
    exact (opens_int Try.underlying3) enc W fuel _ _ hf
  obtain ⟨z1, rfl⟩ := okWide_int Try.underlying3 (hval 1 3 v1 rfl rfl)
  obtain rfl : z1 = x1 := by
    have e : [(.int .i64 z1 : Value)] = [.int .i64 x1] := hK1
    simpa using e
  have k2 := h2
  have lt2 : ∀ x ∈ p2, x.block < W.heap.size := by obtain ⟨m, hm⟩ := k2; exact DataW.trod_lt m _ _ _ hm
  obtain ⟨x2, hK2, hQ2⟩ : ∃ x : Int, (Kd.int .i64).K W x v2.cells.toList ∧ (Lit.int .i64 x).wf = true := by
    obtain ⟨fuel, hf⟩ := h2
    exact (opens_int Try.underlying3) enc W fuel _ _ hf
  obtain ⟨z2, rfl⟩ := okWide_int Try.underlying3 (hval 2 3 v2 rfl rfl)
  obtain rfl : z2 = x2 := by
    have e : [(.int .i64 z2 : Value)] = [.int .i64 x2] := hK2
    simpa using e
  clear hA0 hval0
  obtain ⟨k, hk⟩ := Pure.ReachMore x0 z1 z2 hQ0 hQ1 hQ2
  refine (graftwoodlaw15_ReachMore.calls k _ _ x0.f0 _ _ x0.f1 z1 z2 true W hC0_0 hl0_0 hC0_1 hl0_1 hk rfl).mono fun e W' ⟨he, bel0⟩ => ?_
  have bel : Below W.heap.size W W' := bel0
  subst he
  exact ⟨_, rfl, _, _, _, [], _, [], hW', trodAll_mk1 (shut_bool Try.underlying4 _), (trodAll_cons_mk (Below.trod laidOut (by kernel_rfl) (of_decide_eq_true (by kernel_rfl)) k0 bel lt0) (trodAll_cons_mk (Below.trod laidOut (by kernel_rfl) (of_decide_eq_true (by kernel_rfl)) k1 bel lt1) (trodAll_cons_mk (Below.trod laidOut (by kernel_rfl) (of_decide_eq_true (by kernel_rfl)) k2 bel lt2) trodAll_mk0))), rfl, bel.frame _, fun h => by cases h⟩
theorem over : Rows.reachMoreRow.holds Try.pinned (OpenSpec.ofChange Rows.reachMoreSpec) :=
  OpenClaim.holds_of_wide 8 Try.f8 rfl rfl rfl rfl rfl rfl rfl ⟨rfl, rfl, rfl, rfl, rfl⟩ rfl rfl rfl rfl rfl (by kernel_rfl) Try.func8 (by kernel_rfl)
    (of_decide_eq_true (by kernel_rfl)) (by unfold Func.isWrapper; first | (rw [if_pos (by decide +kernel)]; kernel_rfl) | (rw [if_neg (by decide +kernel)]; exact ⟨rfl, rfl⟩))
    (fun os started H enc _ => lifted os started H enc)
end Go.Proofs.Ytpiamehededilaa.reachMore
namespace Go.Proofs.Ytpiamehededilaa
/-- The row, under a short name, for the claim. -/
theorem reachMore_holds : Rows.ReachMoreSaid := reachMore.over
end Go.Proofs.Ytpiamehededilaa
