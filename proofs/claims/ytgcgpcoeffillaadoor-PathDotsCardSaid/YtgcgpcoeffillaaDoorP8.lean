-- Written by this project's own program (wip/tools/hp.py), driving the kit's print; hand texts among it. Not trusted: Lean checks it.
import Derived.Test.YtgcgpcoeffillaaDoorP0
namespace Go.Proofs.YtgcgpcoeffillaaDoor.P
open Go.RowKit Go.Proofs.YtgcgpcoeffillaaDoorW.PrintWords Go.Proofs.YtgcgpcoeffillaaDoorW.PrintLast Go.Proofs.YtgcgpcoeffillaaDoorW.PrintMore
attribute [local go_sem] max2_int min2_int max_two min_two max_three min_three max_four min_four   -- for this text's walks alone
set_option linter.unusedVariables false
set_option linter.unusedSimpArgs false

/-! ### HAND strings_Join -/
theorem joinX : Builder.Extra Tryd.prog Tryd.lays156_ren := {
  sizeBuilder := by kernel_rfl
  liesBuilder := by kernel_rfl
  t5 := Tryd.underlying5
  a5 := Tryd.isAgg5
  z5 := Tryd.sizeOf5
  v5 := Tryd.zeroValue5
  infoByte := by kernel_rfl
  cellsByte := by kernel_rfl
  sizeByte := by kernel_rfl
  neB5 := by decide }
def joinOf (l : List ByteArray) (sep : ByteArray) : List UInt8 := Lib.join (l.map (·.data.toList)) sep.data.toList
def strings_Join.f (l0 : List ByteArray) (a1 : ByteArray) : Option ByteArray := if l0.length ≤ 1000000000 then if (joinOf l0 a1).length ≤ 1000000000 then some ⟨(joinOf l0 a1).toArray⟩ else none else none
theorem strings_Join.calls (A0 : Option Addr) (c0 : Nat) (l0 : List ByteArray) (a1 : ByteArray) (r : ByteArray) (w : World) (hr0 : Kd.C Kd.string w A0 l0.length l0) (hc0 : l0.length ≤ c0) (h : strings_Join.f l0 a1 = some r) :
    Calls Tryd.prog 24 #[.slice A0 l0.length c0, .string a1] w fun e w' => e = .returned (.string r) ∧ Below w.heap.size w w' := by
  unfold strings_Join.f at h
  by_cases h1 : l0.length ≤ 1000000000
  case neg => rw [if_neg h1] at h; cases h
  by_cases h2 : (joinOf l0 a1).length ≤ 1000000000
  case neg => rw [if_pos h1, if_neg h2] at h; cases h
  rw [if_pos h1, if_pos h2] at h
  obtain rfl := Option.some.inj h
  cases l0 with
  | nil =>
    exact (Any.strings_Join_none Tryd.lays156 joinX A0 c0 a1 w).mono fun e w' ⟨he, hw⟩ => ⟨by rw [he]; rfl, hw ▸ Below.refl _ _⟩
  | cons x t =>
    obtain ⟨ad, rfl, hcells⟩ := hr0.2.2 (by simp)
    have hcell : ∀ (j : Nat) (y : ByteArray), (x :: t)[j]? = some y → w.cell? (ad.add j) = some (.string y) := fun j y hj => by
      obtain ⟨c, hcl, hk, hcc⟩ := hcells j y hj
      have hk' : c = [Value.string y] := hk
      subst hk'
      have := hcc 0 _ rfl
      simpa [Kd.string, Kd.scalar] using this
    have h0 := hcell 0 x rfl
    obtain ⟨bk, o, sp⟩ := ad
    have hsp : sp = none := by
      have h00 : w.cell? ⟨bk, o, sp⟩ = some (.string x) := by simpa [Addr.add] using h0
      unfold World.cell? at h00
      cases sp with
      | none => rfl
      | some p => split at h00 <;> simp at h00
    subst hsp
    have hadd : ∀ j, (⟨bk, o, none⟩ : Addr).add j = ⟨bk, o + j, none⟩ := fun j => by unfold Addr.add; split <;> simp_all
    refine (Any.strings_Join Tryd.lays156 joinX bk o c0 (x :: t) a1 w (fun j y hj => by rw [← hadd]; exact hcell j y hj) ?_ (by omega) hc0 (by unfold joinOf at h2; omega)).mono fun e w' ⟨he, hb⟩ => ⟨he, hb⟩
    have := World.block_lt_of_cell? w _ h0
    rw [hadd] at this
    exact this

end Go.Proofs.YtgcgpcoeffillaaDoor.P
