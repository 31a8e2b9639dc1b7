-- Written by this project's own program (wip/tools/hp.py), driving the kit's print; hand texts among it. Not trusted: Lean checks it.
-- half the indentation
import Derived.Test.YtknmfmedklfepaaGreatDoorP0
import Derived.Test.YtknmfmedklfepaaGreatDoorP5
namespace Go.Proofs.YtknmfmedklfepaaGreatDoor.P
open Go.RowKit Go.Proofs.YtknmfmedklfepaaGreatDoorW.PrintWords Go.Proofs.YtknmfmedklfepaaGreatDoorW.PrintLast Go.Proofs.YtknmfmedklfepaaGreatDoorW.PrintMore
attribute [local go_sem] max2_int min2_int max_two min_two max_three min_three max_four min_four   -- for this text's walks alone
set_option linter.unusedVariables false
set_option linter.unusedSimpArgs false

/-! ### HAND octet_Class -/
def octet_Class.f (a0 : Int) : Option Int := if 0 ≤ a0 then if a0 < 256 then some (clsOf a0) else none else none
theorem octet_Class.calls (a0 : Int) (r : Int) (w : World) (h : octet_Class.f a0 = some r) :
  Calls Tryz.prog 127 #[.int .u8 a0] w fun e w' => e = .returned (.int .i64 r) ∧ Below w.heap.size w w' := by
 unfold octet_Class.f at h
 by_cases h0 : 0 ≤ a0
 ·by_cases h1 : a0 < 256
  ·rw [if_pos h0, if_pos h1] at h
   obtain rfl := Option.some.inj h
   have hat := fun W => cellsI_at clsTab W a0 h0 h1 clsTab_length
   simp only [clsTab_at a0 h0 h1] at hat
   go_enter Tryz.func127, Tryz.ntmps127
   go_wp2_with fail
   refine (classes_calls w).mono ?_
   rintro e w' ⟨rfl, hb⟩
   go_wp2
   go_ret
   exact ⟨rfl, hb⟩
  ·rw [if_pos h0, if_neg h1] at h; cases h
 ·rw [if_neg h0] at h; cases h

end Go.Proofs.YtknmfmedklfepaaGreatDoor.P
