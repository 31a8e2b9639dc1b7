/-
  Plain lemmas: 'eventually' (Ev) over the number of rounds, lists of octets. No program in sight.
-/
import Derived.Test.YtjadpeahoaogcaaDoorWWords
import Derived.Test.YtjadpeahoaogcaaDoorWLast
import Derived.Test.YtjadpeahoaogcaaDoorWMore
import Derived.Lib.Strings
namespace Go.Proofs.YtjadpeahoaogcaaDoorB
open Go.RowKit Go.Proofs.YtjadpeahoaogcaaDoorW.PrintWords Go.Proofs.YtjadpeahoaogcaaDoorW.PrintLast Go.Proofs.YtjadpeahoaogcaaDoorW.PrintMore

/-! ### Ev -/
theorem ev_unique {α : Type} {g : Nat → Option α} {a b : α} (h : Ev g a) (h' : Ev g b) : a = b := by
  obtain ⟨K, hK⟩ := h
  obtain ⟨K', hK'⟩ := h'
  have h1 := hK (max K K') (Nat.le_max_left _ _)
  have h2 := hK' (max K K') (Nat.le_max_right _ _)
  rw [h1] at h2
  exact Option.some.inj h2
theorem ev_bind {α β : Type} {g : Nat → Option α} {f : Nat → α → Option β} {a : α} {r : β} (h : Ev g a) (k : Ev (fun n => f n a) r) : Ev (fun n => (g n).bind (f n)) r := Ev.bind h k
theorem ev_some {α β : Type} {f : Nat → α → Option β} {a : α} {r : β} (k : Ev (fun n => f n a) r) : Ev (fun n => (some a).bind (f n)) r := k
theorem ev_pos {α : Type} {c : Prop} [Decidable c] {f g : Nat → Option α} {r : α} (h : c) (k : Ev f r) : Ev (fun n => if c then f n else g n) r := by
  simpa only [if_pos h] using k
theorem ev_neg {α : Type} {c : Prop} [Decidable c] {f g : Nat → Option α} {r : α} (h : ¬ c) (k : Ev g r) : Ev (fun n => if c then f n else g n) r := by
  simpa only [if_neg h] using k
theorem ev_ite {α : Type} {c : Prop} [Decidable c] {f g : Nat → Option α} {r : α} (h : c → Ev f r) (k : ¬ c → Ev g r) : Ev (fun n => if c then f n else g n) r := by
  by_cases hc : c
  · exact ev_pos hc (h hc)
  · exact ev_neg hc (k hc)
theorem ev_now {α : Type} {a r : α} (h : a = r) : Ev (fun _ => some a) r := by subst h; exact Ev.now _
theorem ev_const {α : Type} {g : Option α} {r : α} (h : g = some r) : Ev (fun _ => g) r := by subst h; exact Ev.now _
theorem ev_last {α : Type} {g : Nat → Option α} {r : α} (h : Ev g r) : Ev (fun n => (g n).bind fun t => some t) r := ev_bind h (ev_now rfl)
theorem ev_step {α : Type} {g f : Nat → Option α} {r : α} (h : ∀ k, g (k + 1) = f k) (k : Ev f r) : Ev g r := Ev.step h k

/-! ### numbers -/
theorem w_id {i : Int} (h0 : -9223372036854775808 ≤ i) (h1 : i ≤ 9223372036854775807) : wrap64 i = i := by unfold wrap64; omega
theorem w_small {i : Int} (h0 : -4611686018427387904 ≤ i) (h1 : i ≤ 4611686018427387904) : wrap64 i = i := w_id (by omega) (by omega)
theorem w_succ (i : Nat) (h : i ≤ 4611686018427387904) : wrap64 ((i : Int) + 1) = ((i + 1 : Nat) : Int) := by
  have h1 : wrap64 ((i : Int) + 1) = (i : Int) + 1 := w_id (by omega) (by omega)
  rw [h1]; rfl
theorem u8_range {n : Int} (h : (Lit.int .u8 n).wf = true) : 0 ≤ n ∧ n < 256 := by
  have : 0 ≤ n ∧ n ≤ 255 := by simpa [Lit.wf, IntKind.min, IntKind.max, IntKind.signed, IntKind.bits] using h
  omega
theorem i64_range {n : Int} (h : (Lit.int .i64 n).wf = true) : -9223372036854775808 ≤ n ∧ n ≤ 9223372036854775807 := by
  simpa [Lit.wf, IntKind.min, IntKind.max, IntKind.signed, IntKind.bits] using h
theorem mn_eq (a b : Nat) : mn (a : Int) (b : Int) = ((min a b : Nat) : Int) := by unfold mn; split <;> omega

theorem drop_nil {α : Type} (l : List α) (i : Nat) (h : l.length ≤ i) : l.drop i = [] := List.drop_eq_nil_of_le h
theorem dec_cons {α : Type} [DecidableEq α] (a b : α) (x y : List α) (h : a = b) : decide (a :: x = b :: y) = decide (x = y) := by subst h; simp
theorem dec_cons_ne {α : Type} [DecidableEq α] (a b : α) (x y : List α) (h : ¬ a = b) : decide (a :: x = b :: y) = false := by simp [h]

/-! ### texts -/
/-- A text's octets. -/
def L (s : ByteArray) : List UInt8 := s.data.toList
theorem L_size (s : ByteArray) : (L s).length = s.size := by simp [L]
theorem L_inj {a b : ByteArray} (h : L a = L b) : a = b := by
  cases a; cases b; simp only [L] at h; congr; exact Array.ext' h
theorem toList_L (s : ByteArray) : s.toList = L s := Lib.toList_data s
theorem L_append (a b : ByteArray) : L (a ++ b) = L a ++ L b := by simp [L]
theorem L_mk (l : List UInt8) : L ⟨l.toArray⟩ = l := rfl
theorem mk_L (s : ByteArray) : (⟨(L s).toArray⟩ : ByteArray) = s := by cases s; rfl
theorem L_empty : L (⟨#[]⟩ : ByteArray) = [] := rfl
theorem L_nil : L ByteArray.empty = [] := rfl
theorem L_extract (s : ByteArray) (a b : Nat) : L (s.extract a b) = ((L s).drop a).take (b - a) := Lib.extract_data s a b
theorem eq_iff_L (a b : ByteArray) : a.toList = b.toList ↔ L a = L b := by rw [toList_L, toList_L]
theorem bt_L (s : ByteArray) (i : Nat) (h : i < (L s).length) : bt s i = ((L s)[i].toNat : Int) := by
  have h' : i < s.size := by rw [← L_size]; exact h
  unfold bt
  rw [dif_pos (by simpa using h')]
  rfl
theorem bt_eq_iff (a b : ByteArray) (i j : Nat) (h : i < (L a).length) (h' : j < (L b).length) : bt a i = bt b j ↔ (L a)[i] = (L b)[j] := by
  rw [bt_L a i h, bt_L b j h']
  constructor
  · intro e; exact UInt8.toNat_inj.1 (by omega)
  · intro e; rw [e]
theorem rdOf_at {α : Type} (d : α) (l : List α) (i : Nat) (h : i < l.length) : rdOf d l i = l[i] := by
  simp [rdOf, List.getD_eq_getElem?_getD, h]

/-! ### the order of texts -/
theorem less_eq : ∀ (x y : List UInt8), Op.bytesLess x y = decide (x < y)
  | [], [] => by simp [Op.bytesLess]
  | _ :: _, [] => by simp [Op.bytesLess]
  | [], _ :: _ => by simp [Op.bytesLess]
  | a :: x, b :: y => by
    rw [Op.bytesLess, less_eq x y]
    simp only [List.cons_lt_cons_iff]
    by_cases h1 : a < b <;> by_cases h2 : a = b <;> by_cases h3 : x < y <;> simp [h1, h2, h3]
/-- Two texts held against one another. -/
def cmpL (x y : List UInt8) : Int := if x < y then -1 else if y < x then 1 else 0
theorem cmpL_self (x : List UInt8) : cmpL x x = 0 := by simp [cmpL, List.lt_irrefl]
theorem cmpL_zero {x y : List UInt8} : cmpL x y = 0 ↔ x = y := by
  unfold cmpL
  constructor
  · intro h
    by_cases h1 : x < y
    · rw [if_pos h1] at h; omega
    · rw [if_neg h1] at h
      by_cases h2 : y < x
      · rw [if_pos h2] at h; omega
      · exact List.le_antisymm (List.not_lt.1 h2) (List.not_lt.1 h1)
  · intro h; subst h; simp [List.lt_irrefl]
theorem cmpL_neg {x y : List UInt8} : cmpL x y < 0 ↔ x < y := by
  unfold cmpL
  by_cases h1 : x < y
  · simp [h1]
  · by_cases h2 : y < x <;> simp [h1, h2]
theorem cmpL_range (x y : List UInt8) : -1 ≤ cmpL x y ∧ cmpL x y ≤ 1 := by
  unfold cmpL
  repeat' split
  all_goals omega
theorem cmpL_flip (x y : List UInt8) : cmpL y x = - cmpL x y := by
  unfold cmpL
  by_cases h1 : x < y
  · have h2 : ¬ y < x := List.lt_asymm h1
    simp [h1, h2]
  · by_cases h2 : y < x <;> simp [h1, h2]
theorem cmpL_cons (a : UInt8) (x y : List UInt8) : cmpL (a :: x) (a :: y) = cmpL x y := by
  unfold cmpL
  simp
theorem cmpL_append (c x y : List UInt8) : cmpL (c ++ x) (c ++ y) = cmpL x y := by
  induction c with
  | nil => rfl
  | cons a c ih => rw [List.cons_append, List.cons_append, cmpL_cons, ih]
theorem cmpL_le {x y : List UInt8} : cmpL x y ≤ 0 ↔ x ≤ y := by
  rw [← List.not_lt, ← cmpL_neg, cmpL_flip x y]
  omega
theorem lt_lt_le {x y z : List UInt8} (h : x < y) (h' : y ≤ z) : x < z := by
  by_cases hz : y < z
  · exact List.lt_trans h hz
  · exact List.le_antisymm h' (List.not_lt.1 hz) ▸ h
end Go.Proofs.YtjadpeahoaogcaaDoorB
