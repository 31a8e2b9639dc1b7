-- Written by this project's own program (wip/tools/hp.py), driving the kit's print; hand texts among it. Not trusted: Lean checks it.
-- half the indentation
import Derived.Test.YtknmfmedklfepaaGreatDoorP0
namespace Go.Proofs.YtknmfmedklfepaaGreatDoor.P
open Go.RowKit Go.Proofs.YtknmfmedklfepaaGreatDoorW.PrintWords Go.Proofs.YtknmfmedklfepaaGreatDoorW.PrintLast Go.Proofs.YtknmfmedklfepaaGreatDoorW.PrintMore
attribute [local go_sem] max2_int min2_int max_two min_two max_three min_three max_four min_four   -- for this text's walks alone
set_option linter.unusedVariables false
set_option linter.unusedSimpArgs false

theorem eqA101 (d : Nat) (w : World) (x0 y0 x1 y1 x2 y2 : ByteArray) :
  (Op.equalIn (d + 2) 101 (.agg #[.string x0, .string x1, .string x2]) (.agg #[.string y0, .string y1, .string y2])).run Tryz.prog w = .ok (x0.toList == y0.toList && (x1.toList == y1.toList && (x2.toList == y2.toList))) w := by
 have hs : ∀ w, (sizeOf 9).run Tryz.prog w = .ok 1 w := fun w => Tryz.sizeOf9 w
 have hp0 : ∀ (c0 c1 c2 : ByteArray) w, (part 9 #[.string c0, .string c1, .string c2] 0).run Tryz.prog w = .ok (.string c0) w := fun c0 c1 c2 w => by go_simp
 have hp1 : ∀ (c0 c1 c2 : ByteArray) w, (part 9 #[.string c0, .string c1, .string c2] 1).run Tryz.prog w = .ok (.string c1) w := fun c0 c1 c2 w => by go_simp
 have hp2 : ∀ (c0 c1 c2 : ByteArray) w, (part 9 #[.string c0, .string c1, .string c2] 2).run Tryz.prog w = .ok (.string c2) w := fun c0 c1 c2 w => by go_simp
 have he : ∀ (a b : ByteArray) w, (Op.equalIn (d + 1) 9 (.string a) (.string b)).run Tryz.prog w = .ok (a.toList == b.toList) w := fun a b w => by go_simp
 have hu := fun w => run_underlying (w := w) Tryz.underlying101
 rw [show d + 2 = (d + 1) + 1 from rfl, Op.equalIn]
 simp only [Sem.run_bind, hu, Result.andThen_ok, hs, Std.Legacy.Range.forIn_eq_forIn_range', Std.Legacy.Range.size]
 rw [show List.range' 0 ((3 - 0 + 1 - 1) / 1) = [0, 1, 2] from rfl]
 simp only [List.forIn_cons, List.forIn_nil, Sem.run_bind, Nat.mul_one, hp0, hp1, hp2, he, Result.andThen_ok]
 cases h0 : (x0.toList == y0.toList) <;> cases h1 : (x1.toList == y1.toList) <;> cases h2 : (x2.toList == y2.toList) <;> simp [-beq_iff_eq, -beq_eq_false_iff_ne, -bne_iff_ne, hp0, hp1, hp2, he, h0, h1, h2, Sem.run_bind, Sem.run_pure]
end Go.Proofs.YtknmfmedklfepaaGreatDoor.P
