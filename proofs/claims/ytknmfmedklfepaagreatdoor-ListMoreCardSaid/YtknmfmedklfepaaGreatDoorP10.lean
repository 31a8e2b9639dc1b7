-- Written by this project's own program (wip/tools/hp.py), driving the kit's print; hand texts among it. Not trusted: Lean checks it.
-- half the indentation
import Derived.Test.YtknmfmedklfepaaGreatDoorP0
namespace Go.Proofs.YtknmfmedklfepaaGreatDoor.P
open Go.RowKit Go.Proofs.YtknmfmedklfepaaGreatDoorW.PrintWords Go.Proofs.YtknmfmedklfepaaGreatDoorW.PrintLast Go.Proofs.YtknmfmedklfepaaGreatDoorW.PrintMore
attribute [local go_sem] max2_int min2_int max_two min_two max_three min_three max_four min_four   -- for this text's walks alone
set_option linter.unusedVariables false
set_option linter.unusedSimpArgs false

/-! ### HAND stringslite_Index -/
def stringslite_Index.f (a0 : ByteArray) (a1 : ByteArray) : Option Int := if a1.size = 1 then some (Lib.indexByte a0.data.toList (a1.data.toList.headD 0)) else none
theorem stringslite_Index.calls (a0 : ByteArray) (a1 : ByteArray) (r : Int) (w : World) (h : stringslite_Index.f a0 a1 = some r) :
  Calls Tryz.prog 128 #[.string a0, .string a1] w fun e w' => e = .returned (.int .i64 r) ∧ Drawn0 w w' := by
 unfold stringslite_Index.f at h
 by_cases h1 : a1.size = 1
 case neg => rw [if_neg h1] at h; cases h
 rw [if_pos h1] at h
 obtain rfl := Option.some.inj h
 obtain ⟨⟨l⟩⟩ := a1
 match l, h1 with
 | [c], _ => exact (Any.stringslite_Index_one Tryz.lays219 a0 c w).mono fun e w' ⟨he, hw⟩ => ⟨he, by subst hw; exact ⟨0, rfl⟩⟩

end Go.Proofs.YtknmfmedklfepaaGreatDoor.P
