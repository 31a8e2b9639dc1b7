/-
  What the printed functions of layer 1 (octet), its reference and its law's helpers come to: plain lists of octets.
-/
import Derived.Test.YtjadpeahoaogcaaDoorP2
import Derived.Test.YtjadpeahoaogcaaDoorP6
import Derived.Test.YtjadpeahoaogcaaDoorP12
import Derived.Test.YtjadpeahoaogcaaDoorP5
import Derived.Test.YtjadpeahoaogcaaDoorP7
import Derived.Test.YtjadpeahoaogcaaDoorP26
import Derived.Test.YtjadpeahoaogcaaDoorBase
namespace Go.Proofs.YtjadpeahoaogcaaDoor.Q
open Go.RowKit Go.Proofs.YtjadpeahoaogcaaDoor.P Go.Proofs.YtjadpeahoaogcaaDoorB Go.Proofs.YtjadpeahoaogcaaDoorW.PrintWords Go.Proofs.YtjadpeahoaogcaaDoorW.PrintLast Go.Proofs.YtjadpeahoaogcaaDoorW.PrintMore
set_option linter.unusedSimpArgs false

/-! ### an octet and its number -/
theorem oct_back (c : Int) (h0 : 0 ≤ c) (h1 : c < 256) : (c.toNat.toUInt8.toNat : Int) = c := by
  have : c.toNat.toUInt8.toNat = c.toNat := by
    show (UInt8.ofNat c.toNat).toNat = _
    rw [UInt8.toNat_ofNat']
    omega
  omega
theorem L_num (c : Int) : L (strOfNums [c]) = [c.toNat.toUInt8] := rfl
theorem size_num (c : Int) : (strOfNums [c]).size = 1 := rfl
theorem size_app (a b : ByteArray) : (a ++ b).size = a.size + b.size := by rw [← L_size, L_append, List.length_append, L_size, L_size]

/-! ### Few -/
def few (a : ByteArray) : ByteArray := if a.size > 400 then a.extract 0 400 else a
theorem few_size (a : ByteArray) : (few a).size ≤ 400 := by
  unfold few
  split
  · simp; omega
  · omega
theorem few_len (a : ByteArray) : (L (few a)).length ≤ 400 := by rw [L_size]; exact few_size a
theorem Few_eq (a : ByteArray) : graftwoodlaw01_Few.f a = some (few a) := by
  unfold graftwoodlaw01_Few.f few
  by_cases h : a.size > 400
  · rw [if_pos (by omega), if_pos (by omega), if_pos (by omega), if_pos h]
  · rw [if_neg (by omega), if_neg h]

/-! ### Cmp -/
theorem Cmp_eq (a b : ByteArray) : octet_Cmp.f a b = some (cmpL (L a) (L b)) := by
  unfold octet_Cmp.f cmp_Compare_string.f cmp_isNaN_string.f cmpL
  simp only [Option.bind_some, bne_self_eq_false, toList_L, less_eq, decide_eq_true_eq]
  by_cases h1 : L a < L b
  · simp [h1]
  · by_cases h2 : L b < L a <;> simp [h1, h2]

/-! ### Parts -/
def partsB (c : UInt8) (s : ByteArray) : List ByteArray := (partsL c (L s)).map fun x => ⟨x.toArray⟩
theorem Parts_eq (s : ByteArray) (c : Int) (h0 : 0 ≤ c) (h1 : c < 256) (hs : s.size ≤ 1000000000) : octet_Parts.f s c = some (partsB c.toNat.toUInt8 s) := by
  unfold octet_Parts.f
  rw [if_pos h0, if_pos h1, if_pos hs]
  rfl
theorem partsB_length (c : UInt8) (s : ByteArray) : (partsB c s).length = (partsL c (L s)).length := by simp [partsB]
theorem partsL_pos (c : UInt8) (l : List UInt8) : 1 ≤ (partsL c l).length := (partsL_length c l).2
theorem partsL_ne (c : UInt8) (l : List UInt8) : partsL c l ≠ [] := fun h => by have := partsL_pos c l; rw [h] at this; simp at this
/-- Put together again. -/
def joinL (c : UInt8) : List (List UInt8) → List UInt8
  | [] => []
  | [x] => x
  | x :: y :: l => x ++ c :: joinL c (y :: l)
theorem joinL_cons (c : UInt8) (x : List UInt8) (l : List (List UInt8)) (h : l ≠ []) : joinL c (x :: l) = x ++ c :: joinL c l := by
  cases l with
  | nil => exact absurd rfl h
  | cons y l => rfl
theorem partsL_split (c : UInt8) (l : List UInt8) : ∃ h t, partsL c l = h :: t := by
  cases hp : partsL c l with
  | nil => exact absurd hp (partsL_ne c l)
  | cons h t => exact ⟨h, t, rfl⟩
theorem joinL_parts (c : UInt8) : ∀ l : List UInt8, joinL c (partsL c l) = l
  | [] => rfl
  | b :: l => by
    have ih := joinL_parts c l
    rw [partsL]
    by_cases h : b = c
    · rw [if_pos h, joinL_cons c [] _ (partsL_ne c l), ih, h]; rfl
    · rw [if_neg h]
      obtain ⟨x, t, hx⟩ := partsL_split c l
      rw [hx] at ih ⊢
      rw [← ih]
      cases t with
      | nil => rfl
      | cons y t => rfl
theorem partsL_count (c : UInt8) : ∀ l : List UInt8, (partsL c l).length = l.count c + 1
  | [] => rfl
  | b :: l => by
    have ih := partsL_count c l
    rw [partsL]
    by_cases h : b = c
    · subst h; rw [if_pos rfl, List.length_cons, ih, List.count_cons_self]
    · rw [if_neg h, List.count_cons_of_ne (by simpa using h), List.length_cons, List.length_tail, ih]; omega
theorem partsL_free (c : UInt8) : ∀ (l : List UInt8) (p : List UInt8), p ∈ partsL c l → c ∉ p
  | [], p, hp => by simp [partsL] at hp; subst hp; simp
  | b :: l, p, hp => by
    have ih := partsL_free c l
    obtain ⟨x, t, hx⟩ := partsL_split c l
    rw [partsL] at hp
    rw [hx] at hp ih
    by_cases h : b = c
    · rw [if_pos h] at hp
      rcases List.mem_cons.1 hp with rfl | hp
      · simp
      · exact ih p hp
    · rw [if_neg h] at hp
      rcases List.mem_cons.1 hp with rfl | hp
      · have := ih x (by simp)
        simp only [List.headD_cons, List.mem_cons, not_or]
        exact ⟨fun e => h e.symm, this⟩
      · exact ih p (by simp at hp ⊢; exact .inr hp)
theorem partsL_append (c : UInt8) (b : List UInt8) : ∀ a : List UInt8, partsL c (a ++ c :: b) = partsL c a ++ partsL c b
  | [] => by simp [partsL]
  | x :: a => by
    have ih := partsL_append c b a
    rw [List.cons_append, partsL, ih, partsL]
    obtain ⟨p, t, hp⟩ := partsL_split c a
    by_cases h : x = c
    · rw [if_pos h, if_pos h]; rfl
    · rw [if_neg h, if_neg h, hp]; rfl
theorem partsL_whole (c : UInt8) (l : List UInt8) (h : c ∉ l) : partsL c l = [l] := by
  induction l with
  | nil => rfl
  | cons b l ih =>
    simp only [List.mem_cons, not_or] at h
    rw [partsL, if_neg (fun e => h.1 e.symm), ih h.2]
    rfl
/-- The parts of parts put together, none of which has what parts them. -/
theorem partsL_join (c : UInt8) : ∀ l : List (List UInt8), l ≠ [] → (∀ p, p ∈ l → c ∉ p) → partsL c (joinL c l) = l
  | [], h, _ => absurd rfl h
  | [x], _, hf => by simp only [joinL]; exact partsL_whole c x (hf x (by simp))
  | x :: y :: l, _, hf => by
    rw [joinL_cons c x _ (by simp), partsL_append, partsL_whole c x (hf x (by simp)), partsL_join c (y :: l) (by simp) (fun p hp => hf p (by simp at hp ⊢; exact .inr hp))]
    rfl

theorem part_le (c : UInt8) : ∀ (l : List UInt8) (p : List UInt8), p ∈ partsL c l → p.length ≤ l.length
  | [], p, hp => by simp [partsL] at hp; simp [hp]
  | b :: l, p, hp => by
    have ih := part_le c l
    obtain ⟨x, t, hx⟩ := partsL_split c l
    rw [partsL, hx] at hp
    rw [hx] at ih
    by_cases h : b = c
    · rw [if_pos h] at hp
      rcases List.mem_cons.1 hp with rfl | hp
      · simp
      · have := ih p hp; simp; omega
    · rw [if_neg h] at hp
      rcases List.mem_cons.1 hp with rfl | hp
      · have := ih x (by simp); simpa using this
      · have := ih p (by simp at hp ⊢; exact .inr hp); simp; omega
theorem joinL_small (c : UInt8) (n : Nat) : ∀ l : List (List UInt8), (∀ x, x ∈ l → x.length ≤ n) → (joinL c l).length ≤ (n + 1) * l.length
  | [], _ => by simp [joinL]
  | [x], h => by have := h x (by simp); simp [joinL]; omega
  | x :: y :: l, h => by
    have ih := joinL_small c n (y :: l) (fun z hz => h z (by simp at hz ⊢; exact .inr hz))
    have := h x (by simp)
    rw [joinL_cons c x _ (by simp)]
    simp only [List.length_append, List.length_cons] at ih ⊢
    have e : (n + 1) * (l.length + 1 + 1) = (n + 1) * (l.length + 1) + (n + 1) := by rw [Nat.mul_add]; omega
    omega


/-! ### the reference's Same -/
theorem refSame_loop (x y : List ByteArray) (hl : x.length = y.length) (hx : x.length ≤ 4611686018427387904) (d : Nat) : ∀ i : Nat, i + d = x.length → Ev (fun k => graftwoodref01_Same.l0 k x y i) (decide (x.drop i = y.drop i)) := by
  induction d with
  | zero =>
    intro i hi
    refine ev_step (fun k => by rw [graftwoodref01_Same.l0]) ?_
    refine ev_neg (by omega) (ev_now ?_)
    rw [List.drop_eq_nil_of_le (by omega), List.drop_eq_nil_of_le (by omega)]
    simp
  | succ d ih =>
    intro i hi
    have e := w_succ i (by omega)
    refine ev_step (fun k => by rw [graftwoodref01_Same.l0]) ?_
    refine ev_pos (by omega) (ev_pos (by omega) (ev_pos (by omega) ?_))
    rw [rdOf_at _ x i (by omega), rdOf_at _ y i (by omega), List.drop_eq_getElem_cons (l := x) (by omega), List.drop_eq_getElem_cons (l := y) (by omega)]
    refine ev_ite (fun h => ?_) (fun h => ?_)
    · have h' := L_inj ((eq_iff_L _ _).1 h)
      rw [e, dec_cons _ _ _ _ h']
      exact ih (i + 1) (by omega)
    · have h' : ¬ x[i] = y[i] := fun hh => h (by rw [hh])
      exact ev_now (dec_cons_ne _ _ _ _ h').symm
theorem refSame_ev (x y : List ByteArray) (hx : x.length ≤ 4611686018427387904) : Ev (fun k => graftwoodref01_Same.f k x y) (decide (x = y)) := by
  unfold graftwoodref01_Same.f
  refine ev_ite (fun h => ?_) (fun h => ?_)
  · simpa using refSame_loop x y (by omega) hx x.length 0 (by omega)
  · have : ¬ x = y := fun e => h (by rw [e])
    exact ev_now (by simp [this])




theorem All_eq (s : ByteArray) (l : List Int) (hs : s.size ≤ 1000000000) : octet_All.f s l = some (allOf l (L s)) := by
  unfold octet_All.f
  rw [if_pos hs]
  rfl
end Go.Proofs.YtjadpeahoaogcaaDoor.Q
