import Derived.Lib.Hide
import Derived.Lib.Strings
import Derived.WalkKit
import Derived.Test.YtknmfmedklfepaaGreatDoorWWords
namespace Go.Proofs.YtknmfmedklfepaaGreatDoor.P
open Go.RowKit Go.Proofs.YtknmfmedklfepaaGreatDoorW.PrintWords
/-- The iterator over a text in block k stands at a place. -/
def iterTo (w : World) (k : Nat) (s : ByteArray) (pos : Nat) : World := { w with heap := w.heap.setIfInBounds k (.stringIter s pos) }
theorem iterTo_size (w : World) (k : Nat) (s : ByteArray) (pos : Nat) : (iterTo w k s pos).heap.size = w.heap.size := by simp [iterTo]
theorem iterTo_at (w : World) (k : Nat) (s : ByteArray) (pos : Nat) (hk : k < w.heap.size) : (iterTo w k s pos).heap[k]? = some (.stringIter s pos) := by simp [iterTo, hk]
theorem iterTo_below (w : World) (k B : Nat) (s : ByteArray) (pos : Nat) (hB : B ≤ k) : Below B w (iterTo w k s pos) :=
  ⟨rfl, rfl, rfl, by simp [iterTo], fun i hi => by simp [iterTo, show ¬ k = i by omega]⟩
theorem run_next_at {P : Program} (w : World) (k : Nat) (s : ByteArray) (pos : Nat) (ty : TypeId) (hk : w.heap[k]? = some (.stringIter s pos)) (h : pos < s.size) :
    (Instr.next (.pointer (some ⟨k, 0, none⟩)) true ty).run P w = .ok (.tuple #[.bool true, .int .i64 pos, .int .i32 (Utf8.decode s pos).1]) (iterTo w k s (pos + (Utf8.decode s pos).2)) := by
  simp only [Instr.next, getObj, setObj, Sem.run_bind, Sem.run, hk, Result.andThen, h, if_true]
  simp [goInt, iterTo]
theorem run_next_out {P : Program} (w : World) (k : Nat) (s : ByteArray) (pos : Nat) (ty : TypeId) (hk : w.heap[k]? = some (.stringIter s pos)) (h : ¬ pos < s.size) :
    (Instr.next (.pointer (some ⟨k, 0, none⟩)) true ty).run P w = .ok (.tuple #[.bool false]) w := by
  simp [Instr.next, getObj, Sem.run, hk, h]
theorem get_of (s : ByteArray) (k : Nat) (h : k < s.size) : s.get! k = s[k] := by
  show s.data[k]! = s.data[k]
  exact getElem!_pos s.data k h
theorem decode_high (s : ByteArray) (pos : Nat) (h : pos < s.size) (hb : 128 ≤ s[pos].toNat) :
    128 ≤ (Utf8.decode s pos).1 ∧ Utf8.valid (Utf8.decode s pos).1 = true ∧ 1 ≤ (Utf8.decode s pos).2 ∧ ∀ j, j < (Utf8.decode s pos).2 → ∃ hj : pos + j < s.size, 128 ≤ (s[pos + j]'hj).toNat := by
  have hone : ∀ j, j < 1 → ∃ hj : pos + j < s.size, 128 ≤ (s[pos + j]'hj).toNat := by
    intro j hj
    obtain rfl : j = 0 := by omega
    exact ⟨h, hb⟩
  have hcont : ∀ j, (decide (pos + j < s.size) && (s.get! (pos + j)).toNat / 64 == 2) = true → ∃ hj : pos + j < s.size, 128 ≤ (s[pos + j]'hj).toNat := by
    intro j hj
    rw [Bool.and_eq_true, decide_eq_true_eq, beq_iff_eq] at hj
    refine ⟨hj.1, ?_⟩
    have := hj.2
    rw [get_of s _ hj.1] at this
    omega
  have h0 : (s.get! (pos + 0)).toNat = s[pos].toNat := by rw [get_of s (pos + 0) h]; rfl
  have hlt := s[pos].toNat_lt
  have bad : 128 ≤ Utf8.runeError ∧ Utf8.valid Utf8.runeError = true ∧ 1 ≤ 1 ∧ ∀ j, j < 1 → ∃ hj : pos + j < s.size, 128 ≤ (s[pos + j]'hj).toNat := ⟨by decide, by decide, by decide, hone⟩
  unfold Utf8.decode
  simp only [h0]
  rw [if_neg (by omega)]
  split
  · rename_i c1
    rw [Bool.and_eq_true] at c1
    split
    · rename_i c2
      refine ⟨c2, ?_, by simp, fun j hj => ?_⟩
      · unfold Utf8.valid
        have : s[pos].toNat % 32 * 64 + (s.get! (pos + 1)).toNat % 64 < 55296 := by omega
        simp only [Bool.or_eq_true, Bool.and_eq_true, decide_eq_true_eq]
        omega
      · rcases Nat.lt_or_ge j 1 with h1 | h1
        · exact hone j h1
        · obtain rfl : j = 1 := by omega
          exact hcont 1 c1.2
    · exact bad
  · split
    · rename_i c1
      rw [Bool.and_eq_true, Bool.and_eq_true] at c1
      split
      · rename_i c2
        rw [Bool.and_eq_true, decide_eq_true_eq] at c2
        refine ⟨by omega, c2.2, by simp, fun j hj => ?_⟩
        rcases Nat.lt_or_ge j 1 with h1 | h1
        · exact hone j h1
        · rcases Nat.lt_or_ge j 2 with h2 | h2
          · obtain rfl : j = 1 := by omega
            exact hcont 1 c1.1.2
          · obtain rfl : j = 2 := by omega
            exact hcont 2 c1.2
      · exact bad
    · split
      · rename_i c1
        rw [Bool.and_eq_true, Bool.and_eq_true, Bool.and_eq_true] at c1
        split
        · rename_i c2
          rw [Bool.and_eq_true, decide_eq_true_eq] at c2
          refine ⟨by omega, c2.2, by simp, fun j hj => ?_⟩
          rcases Nat.lt_or_ge j 1 with h1 | h1
          · exact hone j h1
          · rcases Nat.lt_or_ge j 2 with h2 | h2
            · obtain rfl : j = 1 := by omega
              exact hcont 1 c1.1.1.2
            · rcases Nat.lt_or_ge j 3 with h3 | h3
              · obtain rfl : j = 2 := by omega
                exact hcont 2 c1.1.2
              · obtain rfl : j = 3 := by omega
                exact hcont 3 c1.2
        · exact bad
      · exact bad
end Go.Proofs.YtknmfmedklfepaaGreatDoor.P
