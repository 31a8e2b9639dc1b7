/-
  Small laws of the walk that the print's words lack: comparing two texts, in the form in which the printed functions say it.
-/
import Derived.WalkKit
namespace Go.Proofs.YtknmfmedklfepaaGreatDoorG
open Go.RowKit
theorem bytesLess_flip : ∀ (a b : List UInt8), (!(Op.bytesLess a b || a == b)) = Op.bytesLess b a
  | [], [] => rfl
  | [], _ :: _ => rfl
  | _ :: _, [] => rfl
  | x :: a, y :: b => by
    have ih := bytesLess_flip a b
    unfold Op.bytesLess
    rw [← ih]
    by_cases h1 : x < y
    · have h2 : ¬ y < x := fun h => absurd (UInt8.lt_trans h1 h) (UInt8.lt_irrefl _)
      have h3 : ¬ y = x := fun h => by subst h; exact UInt8.lt_irrefl _ h1
      simp [h1, h2, h3]
    · by_cases h2 : y < x
      · have h3 : ¬ x = y := fun h => by subst h; exact UInt8.lt_irrefl _ h2
        simp [h1, h2, h3]
      · have h3 : x = y := by
          have := UInt8.le_antisymm (UInt8.not_lt.1 h2) (UInt8.not_lt.1 h1)
          exact this
        subst h3
        cases Op.bytesLess a b <;> simp
@[go_sem] theorem binOp_gtr_str (t : TypeId) (a b : ByteArray) : binOp .gtr t (.string a) (.string b) = pure (.bool (Op.bytesLess b.toList a.toList)) := by
  rw [← bytesLess_flip]
  simp [binOp, Op.stringOp]
@[go_sem] theorem binOp_geq_str (t : TypeId) (a b : ByteArray) : binOp .geq t (.string a) (.string b) = pure (.bool !(Op.bytesLess a.toList b.toList)) := by simp [binOp, Op.stringOp]
@[go_sem] theorem binOp_leq_str (t : TypeId) (a b : ByteArray) : binOp .leq t (.string a) (.string b) = pure (.bool !(Op.bytesLess b.toList a.toList)) := by
  rw [← bytesLess_flip]
  simp [binOp, Op.stringOp]
end Go.Proofs.YtknmfmedklfepaaGreatDoorG
