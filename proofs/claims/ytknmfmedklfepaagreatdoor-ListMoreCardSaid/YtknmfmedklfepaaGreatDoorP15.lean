-- Written by this project's own program (wip/tools/hp.py), driving the kit's print; hand texts among it. Not trusted: Lean checks it.
-- half the indentation
import Derived.Test.YtknmfmedklfepaaGreatDoorP0
namespace Go.Proofs.YtknmfmedklfepaaGreatDoor.P
open Go.RowKit Go.Proofs.YtknmfmedklfepaaGreatDoorW.PrintWords Go.Proofs.YtknmfmedklfepaaGreatDoorW.PrintLast Go.Proofs.YtknmfmedklfepaaGreatDoorW.PrintMore
attribute [local go_sem] max2_int min2_int max_two min_two max_three min_three max_four min_four   -- for this text's walks alone
set_option linter.unusedVariables false
set_option linter.unusedSimpArgs false

/-! ### strings_shouldUseASCIISet: function 144 -/
def strings_shouldUseASCIISet.f (a0 : Int) : Option (Bool) := some (decide (a0 > 8))
set_option maxHeartbeats 8000000 in
set_option maxRecDepth 100000 in
theorem strings_shouldUseASCIISet.calls (a0 : Int) (r : Bool) (w : World) (h : strings_shouldUseASCIISet.f a0 = some r) :
  Calls Tryz.prog 144 #[.int .i64 a0] w fun e w' => e = .returned (.bool r) ∧ Drawn0 w w' := by
 have H : (some (decide (a0 > 8))) = some r := h
 clear h
 obtain rfl := Option.some.inj H
 go_enter Tryz.func144, Tryz.ntmps144
 go_wp2
 go_ret
 exact ⟨by first | rfl | (simp; done) | (simp [*]; done), by repeat (first | exact Drawn0.refl _ | apply Drawn0.step)⟩

end Go.Proofs.YtknmfmedklfepaaGreatDoor.P
