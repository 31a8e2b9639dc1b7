import Derived.Test.YtknmfmedklfepaaGreatDoorWWords
import Derived.Test.YtknmfmedklfepaaGreatDoorWMore
import Derived.Lib.Strings
import Derived.Test.YtknmfmedklfepaaGreatDoorP3
import Derived.Test.YtknmfmedklfepaaGreatDoorP5
import Derived.Test.YtknmfmedklfepaaGreatDoorP17
import Derived.Test.YtknmfmedklfepaaGreatDoorP6
import Derived.Test.YtknmfmedklfepaaGreatDoorP4
import Derived.Test.YtknmfmedklfepaaGreatDoorP12
import Derived.Test.YtknmfmedklfepaaGreatDoorP7
import Derived.Test.YtknmfmedklfepaaGreatDoorP13
import Derived.Test.YtknmfmedklfepaaGreatDoorP20
import Derived.Test.YtknmfmedklfepaaGreatDoorP18
import Derived.Test.YtknmfmedklfepaaGreatDoorP19
import Derived.Test.YtknmfmedklfepaaGreatDoorP9
import Derived.Test.YtknmfmedklfepaaGreatDoorP25
import Derived.Test.YtknmfmedklfepaaGreatDoorP22
import Derived.Test.YtknmfmedklfepaaGreatDoorP24
import Derived.Test.YtknmfmedklfepaaGreatDoorP21
import Derived.Test.YtknmfmedklfepaaGreatDoorP23
import Derived.Test.YtknmfmedklfepaaGreatDoorP26
import Derived.Test.YtknmfmedklfepaaGreatDoorGListMore
/-
  Plain lemmas: 'eventually' (Ev) over the number of rounds, lists of octets. No program in sight.
-/
namespace Go.Proofs.YtknmfmedklfepaaGreatDoorB
open Go.RowKit Go.Proofs.YtknmfmedklfepaaGreatDoorW.PrintWords Go.Proofs.YtknmfmedklfepaaGreatDoorW.PrintLast Go.Proofs.YtknmfmedklfepaaGreatDoorW.PrintMore

theorem ev_rounds {α : Type} {g : Nat → Option α} {r : α} (h : Ev g r) : ∃ k, g k = some r := by
  obtain ⟨K, hK⟩ := h
  exact ⟨K, hK K (Nat.le_refl _)⟩
theorem ev_bind {α β : Type} {g : Nat → Option α} {f : Nat → α → Option β} {a : α} {r : β} (h : Ev g a) (k : Ev (fun n => f n a) r) : Ev (fun n => (g n).bind (f n)) r := Ev.bind h k
theorem ev_some {α β : Type} {f : Nat → α → Option β} {a : α} {r : β} (k : Ev (fun n => f n a) r) : Ev (fun n => (some a).bind (f n)) r := k
theorem ev_pos {α : Type} {c : Prop} [Decidable c] {f g : Nat → Option α} {r : α} (h : c) (k : Ev f r) : Ev (fun n => if c then f n else g n) r := by
  simpa only [if_pos h] using k
theorem ev_neg {α : Type} {c : Prop} [Decidable c] {f g : Nat → Option α} {r : α} (h : ¬ c) (k : Ev g r) : Ev (fun n => if c then f n else g n) r := by
  simpa only [if_neg h] using k
theorem ev_ite {α : Type} {c : Prop} [Decidable c] {f g : Nat → Option α} {r : α} (h : c → Ev f r) (k : ¬ c → Ev g r) : Ev (fun n => if c then f n else g n) r := by
  by_cases hc : c
  · exact ev_pos hc (h hc)
  · exact ev_neg hc (k hc)
theorem ev_now {α : Type} {a r : α} (h : a = r) : Ev (fun _ => some a) r := by subst h; exact ⟨0, fun _ _ => rfl⟩
theorem ev_last {α : Type} {g : Nat → Option α} {r : α} (h : Ev g r) : Ev (fun n => (g n).bind fun t => some t) r := ev_bind h (ev_now rfl)
theorem ev_step {α : Type} {g f : Nat → Option α} {r : α} (h : ∀ k, g (k + 1) = f k) (k : Ev f r) : Ev g r := Ev.step h k

/-! ### numbers -/
theorem w_id {i : Int} (h0 : -9223372036854775808 ≤ i) (h1 : i ≤ 9223372036854775807) : wrap64 i = i := by unfold wrap64; omega
theorem w_small {i : Int} (h0 : -4611686018427387904 ≤ i) (h1 : i ≤ 4611686018427387904) : wrap64 i = i := w_id (by omega) (by omega)
theorem w_succ (i : Nat) (h : i ≤ 4611686018427387904) : wrap64 ((i : Int) + 1) = ((i + 1 : Nat) : Int) := by
  have h1 : wrap64 ((i : Int) + 1) = (i : Int) + 1 := w_id (by omega) (by omega)
  rw [h1]; rfl
theorem mn_eq (a b : Nat) : mn (a : Int) (b : Int) = ((min a b : Nat) : Int) := by unfold mn; split <;> omega

/-! ### texts -/
/-- A text's octets. -/
def L (s : ByteArray) : List UInt8 := s.data.toList
theorem L_size (s : ByteArray) : (L s).length = s.size := by simp [L]
theorem L_inj {a b : ByteArray} (h : L a = L b) : a = b := by
  cases a; cases b; simp only [L] at h; congr; exact Array.ext' h
theorem toList_L (s : ByteArray) : s.toList = L s := Lib.toList_data s
theorem L_mk (l : List UInt8) : L ⟨l.toArray⟩ = l := rfl
theorem mk_L (s : ByteArray) : (⟨(L s).toArray⟩ : ByteArray) = s := by cases s; rfl
theorem L_extract (s : ByteArray) (a b : Nat) : L (s.extract a b) = ((L s).drop a).take (b - a) := Lib.extract_data s a b
theorem bt_L (s : ByteArray) (i : Nat) (h : i < (L s).length) : bt s i = ((L s)[i].toNat : Int) := by
  have h' : i < s.size := by rw [← L_size]; exact h
  unfold bt
  rw [dif_pos (by simpa using h')]
  rfl
theorem rdOf_at {α : Type} (d : α) (l : List α) (i : Nat) (h : i < l.length) : rdOf d l i = l[i] := by
  simp [rdOf, List.getD_eq_getElem?_getD, h]

/-! ### the order of texts -/
theorem less_eq : ∀ (x y : List UInt8), Op.bytesLess x y = decide (x < y)
  | [], [] => by simp [Op.bytesLess]
  | _ :: _, [] => by simp [Op.bytesLess]
  | [], _ :: _ => by simp [Op.bytesLess]
  | a :: x, b :: y => by
    rw [Op.bytesLess, less_eq x y]
    simp only [List.cons_lt_cons_iff]
    by_cases h1 : a < b <;> by_cases h2 : a = b <;> by_cases h3 : x < y <;> simp [h1, h2, h3]
/-- Two texts held against one another. -/
def cmpL (x y : List UInt8) : Int := if x < y then -1 else if y < x then 1 else 0
theorem cmpL_self (x : List UInt8) : cmpL x x = 0 := by simp [cmpL, List.lt_irrefl]
theorem cmpL_zero {x y : List UInt8} : cmpL x y = 0 ↔ x = y := by
  unfold cmpL
  constructor
  · intro h
    by_cases h1 : x < y
    · rw [if_pos h1] at h; omega
    · rw [if_neg h1] at h
      by_cases h2 : y < x
      · rw [if_pos h2] at h; omega
      · exact List.le_antisymm (List.not_lt.1 h2) (List.not_lt.1 h1)
  · intro h; subst h; simp [List.lt_irrefl]
theorem cmpL_neg {x y : List UInt8} : cmpL x y < 0 ↔ x < y := by
  unfold cmpL
  by_cases h1 : x < y
  · simp [h1]
  · by_cases h2 : y < x <;> simp [h1, h2]
theorem cmpL_flip (x y : List UInt8) : cmpL y x = - cmpL x y := by
  unfold cmpL
  by_cases h1 : x < y
  · have h2 : ¬ y < x := List.lt_asymm h1
    simp [h1, h2]
  · by_cases h2 : y < x <;> simp [h1, h2]
theorem cmpL_le {x y : List UInt8} : cmpL x y ≤ 0 ↔ x ≤ y := by
  rw [← List.not_lt, ← cmpL_neg, cmpL_flip x y]
  omega
end Go.Proofs.YtknmfmedklfepaaGreatDoorB

/-
  What the printed functions of layer 1 (octet), its reference and its law's helpers come to: plain lists of octets.
-/
namespace Go.Proofs.YtknmfmedklfepaaGreatDoor.Q
open Go.RowKit Go.Proofs.YtknmfmedklfepaaGreatDoor.P Go.Proofs.YtknmfmedklfepaaGreatDoorB Go.Proofs.YtknmfmedklfepaaGreatDoorW.PrintWords Go.Proofs.YtknmfmedklfepaaGreatDoorW.PrintLast Go.Proofs.YtknmfmedklfepaaGreatDoorW.PrintMore
set_option linter.unusedSimpArgs false

/-! ### Few -/
def few (a : ByteArray) : ByteArray := if a.size > 400 then a.extract 0 400 else a
theorem few_size (a : ByteArray) : (few a).size ≤ 400 := by
  unfold few
  split
  · simp; omega
  · omega
theorem Few_eq (a : ByteArray) : graftwoodlaw01_Few.f a = some (few a) := by
  unfold graftwoodlaw01_Few.f few
  by_cases h : a.size > 400
  · rw [if_pos (by omega), if_pos (by omega), if_pos (by omega), if_pos h]
  · rw [if_neg (by omega), if_neg h]

/-! ### Cmp -/
theorem Cmp_eq (a b : ByteArray) : octet_Cmp.f a b = some (cmpL (L a) (L b)) := by
  unfold octet_Cmp.f cmp_Compare_string.f cmp_isNaN_string.f cmpL
  simp only [Option.bind_some, bne_self_eq_false, toList_L, less_eq, decide_eq_true_eq]
  by_cases h1 : L a < L b
  · simp [h1]
  · by_cases h2 : L b < L a <;> simp [h1, h2]

/-! ### Parts -/
def partsB (c : UInt8) (s : ByteArray) : List ByteArray := (partsL c (L s)).map fun x => ⟨x.toArray⟩
theorem Parts_eq (s : ByteArray) (c : Int) (h0 : 0 ≤ c) (h1 : c < 256) (hs : s.size ≤ 1000000000) : octet_Parts.f s c = some (partsB c.toNat.toUInt8 s) := by
  unfold octet_Parts.f
  rw [if_pos h0, if_pos h1, if_pos hs]
  rfl
theorem partsB_length (c : UInt8) (s : ByteArray) : (partsB c s).length = (partsL c (L s)).length := by simp [partsB]
theorem partsL_pos (c : UInt8) (l : List UInt8) : 1 ≤ (partsL c l).length := (partsL_length c l).2
theorem partsL_ne (c : UInt8) (l : List UInt8) : partsL c l ≠ [] := fun h => by have := partsL_pos c l; rw [h] at this; simp at this
/-- Put together again. -/
def joinL (c : UInt8) : List (List UInt8) → List UInt8
  | [] => []
  | [x] => x
  | x :: y :: l => x ++ c :: joinL c (y :: l)
theorem joinL_cons (c : UInt8) (x : List UInt8) (l : List (List UInt8)) (h : l ≠ []) : joinL c (x :: l) = x ++ c :: joinL c l := by
  cases l with
  | nil => exact absurd rfl h
  | cons y l => rfl
theorem partsL_split (c : UInt8) (l : List UInt8) : ∃ h t, partsL c l = h :: t := by
  cases hp : partsL c l with
  | nil => exact absurd hp (partsL_ne c l)
  | cons h t => exact ⟨h, t, rfl⟩
theorem joinL_parts (c : UInt8) : ∀ l : List UInt8, joinL c (partsL c l) = l
  | [] => rfl
  | b :: l => by
    have ih := joinL_parts c l
    rw [partsL]
    by_cases h : b = c
    · rw [if_pos h, joinL_cons c [] _ (partsL_ne c l), ih, h]; rfl
    · rw [if_neg h]
      obtain ⟨x, t, hx⟩ := partsL_split c l
      rw [hx] at ih ⊢
      rw [← ih]
      cases t with
      | nil => rfl
      | cons y t => rfl
theorem part_le (c : UInt8) : ∀ (l : List UInt8) (p : List UInt8), p ∈ partsL c l → p.length ≤ l.length
  | [], p, hp => by simp [partsL] at hp; simp [hp]
  | b :: l, p, hp => by
    have ih := part_le c l
    obtain ⟨x, t, hx⟩ := partsL_split c l
    rw [partsL, hx] at hp
    rw [hx] at ih
    by_cases h : b = c
    · rw [if_pos h] at hp
      rcases List.mem_cons.1 hp with rfl | hp
      · simp
      · have := ih p hp; simp; omega
    · rw [if_neg h] at hp
      rcases List.mem_cons.1 hp with rfl | hp
      · have := ih x (by simp); simpa using this
      · have := ih p (by simp at hp ⊢; exact .inr hp); simp; omega
theorem All_eq (s : ByteArray) (l : List Int) (hs : s.size ≤ 1000000000) : octet_All.f s l = some (allOf l (L s)) := by
  unfold octet_All.f
  rw [if_pos hs]
  rfl
end Go.Proofs.YtknmfmedklfepaaGreatDoor.Q

/-
  What the printed functions of layers 2 (number) and 3 (version) and their references come to.
-/
namespace Go.Proofs.YtknmfmedklfepaaGreatDoor.Q
open Go.RowKit Go.Proofs.YtknmfmedklfepaaGreatDoor.P Go.Proofs.YtknmfmedklfepaaGreatDoorB Go.Proofs.YtknmfmedklfepaaGreatDoorW.PrintWords Go.Proofs.YtknmfmedklfepaaGreatDoorW.PrintLast Go.Proofs.YtknmfmedklfepaaGreatDoorW.PrintMore
set_option linter.unusedSimpArgs false
set_option linter.unusedVariables false

/-! ### numbers -/
def zeroOk : List UInt8 → Bool
  | [] => true
  | b :: l => !(b == 48) || l.isEmpty
def numL (l : List UInt8) : Bool := !l.isEmpty && allOf [1] l && zeroOk l
theorem number_May_eq (s : ByteArray) (hs : s.size ≤ 1000000000) : number_May.f s = some (numL (L s)) := by
  have sz := L_size s
  unfold number_May.f
  rw [toList_L, All_eq s [1] hs]
  cases hL : L s with
  | nil => rfl
  | cons b l =>
    rw [hL] at sz
    simp only [List.length_cons] at sz
    have h0 : bt s 0 = (b.toNat : Int) := by
      have := bt_L s 0 (by rw [hL]; simp)
      simpa [hL] using this
    rw [if_neg (by simp), Option.bind_some]
    unfold numL
    cases ha : allOf [1] (b :: l) with
    | false => rw [if_neg (by simp)]; simp
    | true =>
      rw [if_pos rfl, if_pos (by omega), h0]
      have hb48 : ((b.toNat : Int) = 48) ↔ b = 48 := ⟨fun e => UInt8.toNat_inj.1 (by have : (48 : UInt8).toNat = 48 := rfl; omega), fun e => by rw [e]; rfl⟩
      by_cases h : b = 48
      · rw [if_pos (hb48.2 h)]
        congr 1
        rw [Bool.eq_iff_iff, beq_iff_eq]
        unfold zeroOk
        rw [h]
        cases l with
        | nil => simp at sz ⊢; omega
        | cons c l => simp only [List.length_cons] at sz; simp; omega
      · rw [if_neg (fun e => h (hb48.1 e))]
        unfold zeroOk
        simp [h]
def cmpI (a b : Int) : Int := if a < b then -1 else if a > b then 1 else 0
theorem Compare_eq (a b : Int) : cmp_Compare_int.f a b = some (cmpI a b) := by
  unfold cmp_Compare_int.f cmp_isNaN_int.f cmpI
  simp only [Option.bind_some, bne_self_eq_false, Bool.false_eq_true, if_false]
  split
  · rfl
  · split <;> rfl
def orL : List Int → Int
  | [] => 0
  | a :: l => if a = 0 then orL l else a
theorem Or_loop (l : List Int) (hl : l.length ≤ 1000000000) (d : Nat) : ∀ i : Nat, i + d = l.length → Ev (fun k => cmp_Or_int.l0 k 0 l l.length i) (orL (l.drop i)) := by
  induction d with
  | zero =>
    intro i hi
    refine ev_step (fun k => by rw [cmp_Or_int.l0]) ?_
    refine ev_neg (by omega) (ev_now ?_)
    rw [List.drop_eq_nil_of_le (by omega)]; rfl
  | succ d ih =>
    intro i hi
    have hil : i < l.length := by omega
    refine ev_step (fun k => by rw [cmp_Or_int.l0]) ?_
    refine ev_pos (by omega) (ev_pos (by omega) (ev_pos (by omega) ?_))
    have hr : rd l (i : Int) = l[i] := by simp [rd, List.getD_eq_getElem?_getD, hil]
    rw [hr, w_succ i (by omega), List.drop_eq_getElem_cons hil, orL]
    refine ev_ite (fun h => ?_) (fun h => ?_)
    · rw [if_pos h]; exact ih (i + 1) (by omega)
    · rw [if_neg h]; exact ev_now rfl
theorem Or_ev (l : List Int) (hl : l.length ≤ 1000000000) : Ev (fun k => cmp_Or_int.f k l) (orL l) := by
  unfold cmp_Or_int.f
  have h := Or_loop l hl l.length 0 (by omega)
  rw [List.drop_zero] at h
  exact h
/-- Two numbers held against one another. -/
def numC (a b : List UInt8) : Int := if cmpI a.length b.length = 0 then cmpL a b else cmpI a.length b.length
def numbersL (a b : List UInt8) : Int := if numL a && numL b then numC a b else 0
theorem number_Cmp_ev (a b : ByteArray) (ha : a.size ≤ 1000000000) (hb : b.size ≤ 1000000000) : Ev (fun k => number_Cmp.f k a b) (if numL (L a) && numL (L b) then (numC (L a) (L b), 0) else (0, 1)) := by
  unfold number_Cmp.f
  rw [number_May_eq a ha, number_May_eq b hb]
  simp only [Option.bind_some]
  cases numL (L a) with
  | false =>
    refine ev_neg (by decide) ?_
    refine ev_step (fun k => by rw [number_Cmp.j0]) ?_
    exact ev_pos rfl (ev_now rfl)
  | true =>
    refine ev_pos rfl ?_
    refine ev_step (fun k => by rw [number_Cmp.j0]) ?_
    cases numL (L b) with
    | false => exact ev_pos rfl (ev_now rfl)
    | true =>
      refine ev_neg (by decide) ?_
      rw [Compare_eq, Cmp_eq]
      simp only [Option.bind_some]
      refine ev_bind (Or_ev _ (by simp)) (ev_now ?_)
      simp only [orL, numC, L_size, Bool.and_self, if_true]
      by_cases h : cmpI (a.size : Int) (b.size : Int) = 0
      · rw [if_pos h, if_pos h]
        by_cases h2 : cmpL (L a) (L b) = 0
        · rw [if_pos h2, h2]
        · rw [if_neg h2]
      · rw [if_neg h, if_neg h]
theorem numbers_ev (a b : ByteArray) (ha : a.size ≤ 1000000000) (hb : b.size ≤ 1000000000) : Ev (fun k => version_numbers.f k a b) (numbersL (L a) (L b)) := by
  unfold version_numbers.f
  refine ev_bind (number_Cmp_ev a b ha hb) (ev_now ?_)
  unfold numbersL
  cases numL (L a) && numL (L b) <;> rfl

/-! ### words -/
def wordsL (a b : List UInt8) : Int := if numL a then (if numL b then numC a b else -1) else if numL b then 1 else cmpL a b
theorem words_ev (a b : ByteArray) (ha : a.size ≤ 1000000000) (hb : b.size ≤ 1000000000) : Ev (fun k => version_words.f k a b) (wordsL (L a) (L b)) := by
  have hn := numbers_ev a b ha hb
  unfold numbersL at hn
  unfold version_words.f
  rw [number_May_eq a ha, number_May_eq b hb]
  simp only [Option.bind_some]
  unfold wordsL
  cases h1 : numL (L a) with
  | false =>
    refine ev_neg (by decide) ?_
    refine ev_step (fun k => by rw [version_words.j0]) ?_
    refine ev_neg (by decide) (ev_neg (by decide) ?_)
    cases h2 : numL (L b) with
    | false =>
      refine ev_neg (by decide) ?_
      rw [Cmp_eq]
      exact ev_now rfl
    | true => exact ev_pos rfl (ev_now rfl)
  | true =>
    refine ev_pos rfl ?_
    refine ev_step (fun k => by rw [version_words.j0]) ?_
    cases h2 : numL (L b) with
    | false => exact ev_neg (by decide) (ev_pos rfl (ev_now rfl))
    | true =>
      rw [h1, h2] at hn
      exact ev_pos rfl (ev_last hn)
def badL (l : List UInt8) : Bool := l.any fun b => ([46, 95, 126] : List UInt8).contains b
theorem indexAny_any (chars : List UInt8) : ∀ l : List UInt8, decide (Lib.indexAny l chars ≥ 0) = l.any fun b => chars.contains b
  | [] => rfl
  | b :: l => by
    have ih := indexAny_any chars l
    have hg := Lib.indexAny_ge chars l
    rw [Lib.indexAny, List.any_cons, ← ih]
    cases chars.contains b with
    | true => rfl
    | false =>
      rw [if_neg (by decide), Bool.false_or]
      by_cases h : Lib.indexAny l chars = -1
      · rw [if_pos (by rw [h]; rfl), h]
      · rw [if_neg (by simpa using h)]
        congr 1
        rw [eq_iff_iff]
        constructor <;> intro _ <;> omega
theorem ContainsAny_eq (s : ByteArray) (hs : s.size ≤ 1000000000) : strings_ContainsAny.f s (⟨#[46, 95, 126]⟩ : ByteArray) = some (badL (L s)) := by
  unfold strings_ContainsAny.f strings_IndexAny.f
  rw [if_pos ⟨hs, by decide, by decide, by decide⟩, Option.bind_some]
  congr 1
  exact indexAny_any _ _
def wordL (l : List UInt8) : Bool := !l.isEmpty && !badL l && allOf [1, 2, 3] l && (numL l || !allOf [1] l)
theorem word_ev (s : ByteArray) (hs : s.size ≤ 1000000000) : Ev (fun k => version_word.f k s) (wordL (L s)) := by
  have htrue : ∀ r, r = false → Ev (fun k => version_word.j0 k s true) r := by
    intro r hr
    refine ev_step (fun k => by rw [version_word.j0]) ?_
    exact ev_pos rfl (ev_now hr.symm)
  unfold version_word.f
  rw [ContainsAny_eq s hs, All_eq s _ hs, toList_L]
  simp only [Option.bind_some]
  unfold wordL
  refine ev_ite (fun h => htrue _ (by rw [h]; rfl)) (fun h => ?_)
  have hne : (L s).isEmpty = false := by
    cases hL : L s with
    | nil => exact absurd hL h
    | cons => rfl
  rw [hne]
  cases badL (L s) with
  | true => exact ev_pos rfl (htrue _ rfl)
  | false =>
    refine ev_neg (by decide) ?_
    cases allOf [1, 2, 3] (L s) with
    | false => exact htrue _ rfl
    | true =>
      refine ev_step (fun k => by rw [version_word.j0]) ?_
      refine ev_neg (by decide) ?_
      rw [number_May_eq s hs, All_eq s _ hs]
      simp only [Option.bind_some]
      cases numL (L s) with
      | true => exact ev_pos rfl (ev_now rfl)
      | false => exact ev_neg (by decide) (ev_now rfl)

/-! ### cut -/
def cutL : List UInt8 → List UInt8 × List UInt8 × Bool
  | [] => ([], [], false)
  | b :: l => if b = 45 then ([], l, true) else (b :: (cutL l).1, (cutL l).2.1, (cutL l).2.2)
theorem cutL_index : ∀ l : List UInt8, (Lib.indexByte l 45 = -1 ∧ cutL l = (l, [], false)) ∨ ∃ i : Nat, Lib.indexByte l 45 = i ∧ i < l.length ∧ cutL l = (l.take i, l.drop (i + 1), true)
  | [] => .inl ⟨rfl, rfl⟩
  | b :: l => by
    rw [Lib.indexByte, cutL]
    by_cases h : b = 45
    · right
      rw [if_pos (by simp [h]), if_pos h]
      exact ⟨0, rfl, by simp, rfl⟩
    · rw [if_neg (by simp [h]), if_neg h]
      rcases cutL_index l with ⟨h1, h2⟩ | ⟨i, h1, h2, h3⟩
      · left
        rw [h1, h2]
        exact ⟨rfl, rfl⟩
      · right
        refine ⟨i + 1, ?_, by simp; omega, by rw [h3]; rfl⟩
        rw [h1, if_neg (by simp only [beq_iff_eq]; omega)]
        rfl
def mkB (l : List UInt8) : ByteArray := ⟨l.toArray⟩
theorem L_mkB (l : List UInt8) : L (mkB l) = l := rfl
theorem mkB_size (l : List UInt8) : (mkB l).size = l.length := by rw [← L_size, L_mkB]
theorem mkB_L (s : ByteArray) : mkB (L s) = s := mk_L s
theorem Cut_eq (s : ByteArray) (hs : s.size ≤ 1000000000) : strings_Cut.f s (⟨#[45]⟩ : ByteArray) = some (mkB (cutL (L s)).1, mkB (cutL (L s)).2.1, (cutL (L s)).2.2) := by
  have sz := L_size s
  unfold strings_Cut.f stringslite_Cut.f stringslite_Index.f
  rw [if_pos (show (⟨#[45]⟩ : ByteArray).size = 1 from rfl), Option.bind_some]
  have hsep : (⟨#[45]⟩ : ByteArray).size = 1 := rfl
  have hix : Lib.indexByte s.data.toList (List.headD (⟨#[45]⟩ : ByteArray).data.toList 0) = Lib.indexByte (L s) 45 := rfl
  rw [hix, hsep]
  rcases cutL_index (L s) with ⟨h1, h2⟩ | ⟨i, h1, h2, h3⟩
  · rw [h1, h2, if_neg (by decide), Option.bind_some]
    simp only [mkB_L]
    rfl
  · have hw : wrap64 ((i : Int) + (1 : Nat)) = ((i + 1 : Nat) : Int) := w_succ i (by omega)
    rw [h1, h3, hw, if_pos (by omega), if_pos (by omega), if_pos (by omega), if_pos (by omega), if_pos (by omega), Option.bind_some]
    simp only [Int.toNat_natCast]
    congr 1
    refine Prod.ext ?_ (Prod.ext ?_ rfl)
    · refine L_inj ?_
      rw [L_extract, List.drop_zero, Nat.sub_zero]; rfl
    · refine L_inj ?_
      rw [L_extract, List.take_of_length_le (by rw [List.length_drop]; omega)]; rfl
theorem cutL_sizes (l : List UInt8) : (cutL l).1.length ≤ l.length ∧ (cutL l).2.1.length ≤ l.length := by
  rcases cutL_index l with ⟨-, h⟩ | ⟨i, -, h2, h⟩
  · rw [h]; simp
  · rw [h]; simp only [List.length_take, List.length_drop]; omega

/-! ### versions -/
structure Ver where
  a : List UInt8
  b : List UInt8
  c : List UInt8
  p : List (List UInt8)
def coreL (l : List UInt8) : Option (List UInt8 × List UInt8 × List UInt8) := match partsL 46 l with
  | [a, b, c] => if numL a && numL b && numL c then some (a, b, c) else none
  | _ => none
def splitC (core pre : List UInt8) (has : Bool) : Option Ver := match coreL core with
  | some (a, b, c) => if has then (if (partsL 46 pre).all wordL then some ⟨a, b, c, partsL 46 pre⟩ else none) else some ⟨a, b, c, []⟩
  | none => none
def splitL : List UInt8 → Option Ver
  | [] => none
  | v :: t => if v = 118 then splitC (cutL t).1 (cutL t).2.1 (cutL t).2.2 else none
theorem splitL_cons (v : UInt8) (t : List UInt8) : splitL (v :: t) = if v = 118 then splitC (cutL t).1 (cutL t).2.1 (cutL t).2.2 else none := rfl
def verR : Option Ver → ByteArray × ByteArray × ByteArray × List ByteArray × Int
  | some v => (mkB v.a, mkB v.b, mkB v.c, v.p.map mkB, 0)
  | none => (⟨#[]⟩, ⟨#[]⟩, ⟨#[]⟩, [], 1)
theorem Split_loop (x : List ByteArray) (a b c : ByteArray) (p : List ByteArray) (hx : x.length ≤ 1000000001) (hm : ∀ s, s ∈ x → s.size ≤ 1000000000) (d : Nat) : ∀ i : Nat, i + d = x.length →
    Ev (fun k => version_Split.l0 k x x.length i a b c p) (if (x.drop i).all fun s => wordL (L s) then (a, b, c, p, 0) else (⟨#[]⟩, ⟨#[]⟩, ⟨#[]⟩, [], 1)) := by
  induction d with
  | zero =>
    intro i hi
    refine ev_step (fun k => by rw [version_Split.l0]) ?_
    refine ev_neg (by omega) (ev_now ?_)
    rw [List.drop_eq_nil_of_le (by omega)]; rfl
  | succ d ih =>
    intro i hi
    have hil : i < x.length := by omega
    refine ev_step (fun k => by rw [version_Split.l0]) ?_
    refine ev_pos (by omega) (ev_pos (by omega) (ev_pos (by omega) ?_))
    rw [rdOf_at _ x i hil, w_succ i (by omega), List.drop_eq_getElem_cons hil, List.all_cons]
    refine ev_bind (word_ev _ (hm _ (List.getElem_mem _))) ?_
    refine ev_ite (fun h => ?_) (fun h => ?_)
    · rw [h, Bool.true_and]
      exact ih (i + 1) (by omega)
    · have h' : wordL (L x[i]) = false := by simpa using h
      rw [h', Bool.false_and]
      exact ev_now rfl
theorem partsB_mk (c : UInt8) (l : List UInt8) : partsB c (mkB l) = (partsL c l).map mkB := rfl
theorem HasPrefix_v (s : ByteArray) : strings_HasPrefix.f s (⟨#[118]⟩ : ByteArray) = some (match L s with | [] => false | b :: _ => b == 118) := by
  have sz := L_size s
  unfold strings_HasPrefix.f stringslite_HasPrefix.f
  have h1 : (⟨#[118]⟩ : ByteArray).size = 1 := rfl
  rw [h1]
  cases hL : L s with
  | nil =>
    rw [hL] at sz
    simp only [List.length_nil] at sz
    rw [if_neg (by omega)]; rfl
  | cons b l =>
    rw [hL] at sz
    simp only [List.length_cons] at sz
    rw [if_pos (by omega), if_pos (by omega), if_pos (by omega), Option.bind_some]
    congr 1
    have : (s.extract 0 ((1 : Nat) : Int).toNat).toList = [b] := by
      rw [toList_L, L_extract, hL]; rfl
    rw [this]
    have h2 : (⟨#[118]⟩ : ByteArray).toList = [118] := by rw [toList_L]; rfl
    rw [h2]
    simp
theorem Split_ev (s : ByteArray) (hs : s.size ≤ 1000000) : Ev (fun k => version_Split.f k s) (verR (splitL (L s))) := by
  have sz := L_size s
  unfold version_Split.f
  rw [HasPrefix_v]
  refine ev_some ?_
  cases hL : L s with
  | nil => exact ev_neg (by decide) (ev_now rfl)
  | cons v t =>
    rw [hL] at sz
    simp only [List.length_cons] at sz
    by_cases hv : v = 118
    case neg => exact ev_neg (by simp [hv]) (ev_now (by rw [splitL_cons, if_neg hv]; rfl))
    refine ev_pos (by simp [hv]) (ev_pos (by omega) ?_)
    have ht : s.extract 1 s.size = mkB t := by
      refine L_inj ?_
      rw [L_extract, hL, L_mkB]
      show List.take _ t = t
      exact List.take_of_length_le (by omega)
    rw [ht, Cut_eq _ (by rw [mkB_size]; omega), L_mkB]
    simp only [Option.bind_some]
    rw [splitL_cons, if_pos hv]
    have hcs := cutL_sizes t
    generalize cutL t = ct at *
    obtain ⟨core, pre, has⟩ := ct
    simp only at hcs ⊢
    rw [Parts_eq _ 46 (by decide) (by decide) (by rw [mkB_size]; omega)]
    simp only [Option.bind_some]
    have h46 : (46 : Int).toNat.toUInt8 = 46 := rfl
    rw [h46, partsB_mk]
    have hcl := (partsL_length 46 core).1
    have hple := part_le 46 core
    have hbad : ∀ (x : ByteArray) (y : Bool) (z : List ByteArray), Ev (fun k => version_Split.j0 k x y z true) (verR none) := by
      intro x y z
      refine ev_step (fun k => by rw [version_Split.j0]) ?_
      exact ev_pos rfl (ev_now rfl)
    unfold splitC coreL
    rcases hpl : partsL 46 core with _ | ⟨a, _ | ⟨b, _ | ⟨c, _ | ⟨d, r⟩⟩⟩⟩
    · exact ev_neg (by decide) (hbad _ _ _)
    · exact ev_neg (by simp) (hbad _ _ _)
    · exact ev_neg (by simp) (hbad _ _ _)
    · rw [hpl] at hple
      have la := hple a (by simp)
      have lb := hple b (by simp)
      have lc := hple c (by simp)
      refine ev_pos rfl (ev_pos (by simp) ?_)
      have r0 : rdOf ByteArray.empty (List.map mkB [a, b, c]) 0 = mkB a := rfl
      have r1 : rdOf ByteArray.empty (List.map mkB [a, b, c]) 1 = mkB b := rfl
      have r2 : rdOf ByteArray.empty (List.map mkB [a, b, c]) 2 = mkB c := rfl
      rw [r0, r1, r2, number_May_eq _ (by rw [mkB_size]; omega), number_May_eq _ (by rw [mkB_size]; omega), number_May_eq _ (by rw [mkB_size]; omega), L_mkB, L_mkB, L_mkB]
      simp only [Option.bind_some]
      cases numL a with
      | false => exact ev_neg (by decide) (hbad _ _ _)
      | true =>
        refine ev_pos rfl (ev_pos (by simp) ?_)
        cases numL b with
        | false => exact ev_neg (by decide) (hbad _ _ _)
        | true =>
          refine ev_pos rfl (ev_pos (by simp) ?_)
          cases numL c with
          | false => exact hbad _ _ _
          | true =>
            refine ev_step (fun k => by rw [version_Split.j0]) ?_
            refine ev_neg (by decide) (ev_pos (by simp) (ev_pos (by simp) (ev_pos (by simp) ?_)))
            rw [r0, r1, r2]
            cases has with
            | false => exact ev_neg (by decide) (ev_now rfl)
            | true =>
              refine ev_pos rfl ?_
              rw [Parts_eq _ 46 (by decide) (by decide) (by rw [mkB_size]; omega), h46, partsB_mk]
              refine ev_some ?_
              have hpl2 := (partsL_length 46 pre).1
              have hp2 := part_le 46 pre
              have h := Split_loop ((partsL 46 pre).map mkB) (mkB a) (mkB b) (mkB c) ((partsL 46 pre).map mkB) (by rw [List.length_map]; omega) (fun x hx => by
                obtain ⟨y, hy, rfl⟩ := List.mem_map.1 hx
                have := hp2 y hy
                rw [mkB_size]; omega) ((partsL 46 pre).map mkB).length 0 (by omega)
              have he : (((partsL 46 pre).map mkB).drop 0).all (fun s => wordL (L s)) = (partsL 46 pre).all wordL := by
                rw [List.drop_zero, List.all_map]; rfl
              rw [he] at h
              simp only [Bool.and_self, if_true]
              revert h
              cases (partsL 46 pre).all wordL <;> exact fun h => h
    · exact ev_neg (by simp; omega) (hbad _ _ _)
def verOk (l : List UInt8) : Bool := (splitL l).isSome
theorem verMay_ev (s : ByteArray) (hs : s.size ≤ 1000000) : Ev (fun k => version_May.f k s) (verOk (L s)) := by
  unfold version_May.f
  refine ev_bind (Split_ev s hs) (ev_now ?_)
  unfold verOk
  cases splitL (L s) <;> rfl

/-! ### orders -/
structure Tot {α : Type} (c : α → α → Int) : Prop where
  flip : ∀ a b, c b a = - c a b
  zero : ∀ a b, c a b = 0 ↔ a = b
  trans : ∀ a b d, c a b ≤ 0 → c b d ≤ 0 → c a d ≤ 0
theorem Tot.strictL {α : Type} {c : α → α → Int} (h : Tot c) {a b d : α} (h1 : c a b < 0) (h2 : c b d ≤ 0) : c a d < 0 := by
  have h3 := h.trans a b d (by omega) h2
  rcases Int.lt_or_eq_of_le h3 with h4 | h4
  · exact h4
  · have e := (h.zero a d).1 h4
    subst e
    have := h.flip a b
    omega
theorem tot_cmpL : Tot cmpL where
  flip := cmpL_flip
  zero := fun _ _ => cmpL_zero
  trans := fun a b d h1 h2 => cmpL_le.2 (List.le_trans (cmpL_le.1 h1) (cmpL_le.1 h2))
theorem cmpI_flip (a b : Int) : cmpI b a = - cmpI a b := by unfold cmpI; split <;> split <;> first | omega | (split <;> omega) | rfl
theorem cmpI_zero (a b : Int) : cmpI a b = 0 ↔ a = b := by unfold cmpI; split <;> (try split) <;> omega
theorem cmpI_le (a b : Int) : cmpI a b ≤ 0 ↔ a ≤ b := by unfold cmpI; split <;> (try split) <;> omega
def lexC {α β : Type} (c1 : α → α → Int) (c2 : β → β → Int) (x y : α × β) : Int := if c1 x.1 y.1 = 0 then c2 x.2 y.2 else c1 x.1 y.1
theorem tot_lex {α β : Type} {c1 : α → α → Int} {c2 : β → β → Int} (h1 : Tot c1) (h2 : Tot c2) : Tot (lexC c1 c2) where
  flip := by
    intro x y
    unfold lexC
    have f1 := h1.flip x.1 y.1
    have f2 := h2.flip x.2 y.2
    by_cases h : c1 x.1 y.1 = 0
    · rw [if_pos h, if_pos (by omega)]; exact f2
    · rw [if_neg h, if_neg (by omega)]; exact f1
  zero := by
    intro x y
    unfold lexC
    by_cases h : c1 x.1 y.1 = 0
    · rw [if_pos h, h2.zero]
      exact ⟨fun e => Prod.ext ((h1.zero _ _).1 h) e, fun e => by rw [e]⟩
    · rw [if_neg h]
      exact ⟨fun e => absurd e h, fun e => absurd ((h1.zero _ _).2 (by rw [e])) h⟩
  trans := by
    intro x y z e1 e2
    unfold lexC at *
    by_cases ha : c1 x.1 y.1 = 0
    · rw [if_pos ha] at e1
      have hxy := (h1.zero _ _).1 ha
      rw [hxy]
      by_cases hb : c1 y.1 z.1 = 0
      · rw [if_pos hb] at e2 ⊢
        exact h2.trans _ _ _ e1 e2
      · rw [if_neg hb] at e2 ⊢
        exact e2
    · rw [if_neg ha] at e1
      by_cases hb : c1 y.1 z.1 = 0
      · have hyz := (h1.zero _ _).1 hb
        rw [← hyz, if_neg ha]; exact e1
      · rw [if_neg hb] at e2
        have := h1.strictL (a := x.1) (b := y.1) (d := z.1) (by omega) e2
        rw [if_neg (by omega)]; omega
def listC {α : Type} (c : α → α → Int) : List α → List α → Int
  | [], [] => 0
  | [], _ :: _ => -1
  | _ :: _, [] => 1
  | a :: x, b :: y => if c a b = 0 then listC c x y else c a b
theorem tot_list {α : Type} {c : α → α → Int} (h : Tot c) : Tot (listC c) where
  flip := by
    intro x
    induction x with
    | nil => intro y; cases y <;> rfl
    | cons a x ih =>
      intro y
      cases y with
      | nil => rfl
      | cons b y =>
        unfold listC
        have f := h.flip a b
        by_cases e : c a b = 0
        · rw [if_pos e, if_pos (by omega)]; exact ih y
        · rw [if_neg e, if_neg (by omega)]; exact f
  zero := by
    intro x
    induction x with
    | nil => intro y; cases y <;> simp [listC]
    | cons a x ih =>
      intro y
      cases y with
      | nil => simp [listC]
      | cons b y =>
        unfold listC
        by_cases e : c a b = 0
        · rw [if_pos e, ih y, (h.zero a b).1 e]; simp
        · rw [if_neg e]
          exact ⟨fun h0 => absurd h0 e, fun h0 => absurd ((h.zero a b).2 (List.cons.inj h0).1) e⟩
  trans := by
    intro x
    induction x with
    | nil => intro y z h1 h2; cases z <;> simp [listC]
    | cons a x ih =>
      intro y z h1 h2
      cases y with
      | nil => simp [listC] at h1
      | cons b y =>
        cases z with
        | nil => simp [listC] at h2
        | cons d z =>
          unfold listC at h1 h2 ⊢
          by_cases e1 : c a b = 0
          · rw [if_pos e1] at h1
            have hab := (h.zero a b).1 e1
            rw [hab]
            by_cases e2 : c b d = 0
            · rw [if_pos e2] at h2 ⊢
              exact ih y z h1 h2
            · rw [if_neg e2] at h2 ⊢; exact h2
          · rw [if_neg e1] at h1
            by_cases e2 : c b d = 0
            · have hbd := (h.zero b d).1 e2
              rw [← hbd, if_neg e1]; exact h1
            · rw [if_neg e2] at h2
              have := h.strictL (a := a) (b := b) (d := d) (by omega) h2
              rw [if_neg (by omega)]; omega
theorem tot_numC : Tot numC where
  flip := by
    intro a b
    unfold numC
    have f1 := cmpI_flip (a.length : Int) b.length
    have f2 := cmpL_flip a b
    by_cases h : cmpI (a.length : Int) b.length = 0
    · rw [if_pos h, if_pos (by omega)]; exact f2
    · rw [if_neg h, if_neg (by omega)]; exact f1
  zero := by
    intro a b
    unfold numC
    by_cases h : cmpI (a.length : Int) b.length = 0
    · rw [if_pos h, cmpL_zero]
    · rw [if_neg h]
      exact ⟨fun e => absurd e h, fun e => absurd ((cmpI_zero _ _).2 (by rw [e])) h⟩
  trans := by
    intro a b d h1 h2
    unfold numC at *
    have z1 := cmpI_zero (a.length : Int) b.length
    have z2 := cmpI_zero (b.length : Int) d.length
    have z3 := cmpI_zero (a.length : Int) d.length
    have l1 := cmpI_le (a.length : Int) b.length
    have l2 := cmpI_le (b.length : Int) d.length
    have l3 := cmpI_le (a.length : Int) d.length
    by_cases e1 : cmpI (a.length : Int) b.length = 0
    · rw [if_pos e1] at h1
      have e1' := z1.1 e1
      by_cases e2 : cmpI (b.length : Int) d.length = 0
      · rw [if_pos e2] at h2
        have e2' := z2.1 e2
        rw [if_pos (z3.2 (by omega))]
        exact tot_cmpL.trans _ _ _ h1 h2
      · rw [if_neg e2] at h2
        have h2' := l2.1 h2
        rw [if_neg (fun e => e2 (z2.2 (by have := z3.1 e; omega)))]
        exact l3.2 (by omega)
    · rw [if_neg e1] at h1
      have h1' := l1.1 h1
      by_cases e2 : cmpI (b.length : Int) d.length = 0
      · have e2' := z2.1 e2
        rw [if_neg (fun e => e1 (z1.2 (by have := z3.1 e; omega)))]
        exact l3.2 (by omega)
      · rw [if_neg e2] at h2
        have h2' := l2.1 h2
        rw [if_neg (fun e => e1 (z1.2 (by have := z3.1 e; omega)))]
        exact l3.2 (by omega)
theorem tot_words : Tot wordsL where
  flip := by
    intro a b
    unfold wordsL
    cases numL a <;> cases numL b
    · exact cmpL_flip a b
    · rfl
    · rfl
    · exact tot_numC.flip a b
  zero := by
    intro a b
    unfold wordsL
    cases ha : numL a <;> cases hb : numL b
    · exact cmpL_zero
    · simp; intro e; rw [e, hb] at ha; cases ha
    · simp; intro e; rw [e, hb] at ha; cases ha
    · exact tot_numC.zero a b
  trans := by
    intro a b d h1 h2
    unfold wordsL at *
    cases ha : numL a <;> cases hb : numL b <;> cases hd : numL d <;> simp only [ha, hb, hd, if_true, Bool.false_eq_true, if_false] at h1 h2 ⊢
    · exact tot_cmpL.trans _ _ _ h1 h2
    · omega
    · omega
    · omega
    · omega
    · omega
    · omega
    · exact tot_numC.trans _ _ _ h1 h2
/-- The words behind: none comes last. -/
def preV (x y : List (List UInt8)) : Int := if x.isEmpty || y.isEmpty then cmpI y.length x.length else listC wordsL x y
theorem tot_preV : Tot preV where
  flip := by
    intro x y
    unfold preV
    have f1 := cmpI_flip (y.length : Int) x.length
    have f2 := (tot_list tot_words).flip x y
    cases x <;> cases y <;> first | exact f1 | exact f2
  zero := by
    intro x y
    unfold preV
    have f2 := (tot_list tot_words).zero x y
    cases x with
    | nil =>
      cases y with
      | nil => exact ⟨fun _ => rfl, fun _ => rfl⟩
      | cons b y => first | (simp [cmpI]; done) | (simp [cmpI]; omega)
    | cons a x =>
      cases y with
      | nil => first | (simp [cmpI]; done) | (simp [cmpI]; omega)
      | cons b y => exact f2
  trans := by
    intro x y z h1 h2
    unfold preV at *
    cases x with
    | nil =>
      cases y with
      | nil => exact h2
      | cons b y =>
        have h1' : cmpI ((b :: y).length : Int) (([] : List (List UInt8)).length : Int) ≤ 0 := h1
        exact absurd ((cmpI_le _ _).1 h1') (by simp only [List.length_cons, List.length_nil]; omega)
    | cons a x =>
      cases z with
      | nil =>
        show cmpI (([] : List (List UInt8)).length : Int) ((a :: x).length : Int) ≤ 0
        exact (cmpI_le _ _).2 (by simp only [List.length_cons, List.length_nil]; omega)
      | cons d z =>
        cases y with
        | nil =>
          have h2' : cmpI ((d :: z).length : Int) (([] : List (List UInt8)).length : Int) ≤ 0 := h2
          exact absurd ((cmpI_le _ _).1 h2') (by simp only [List.length_cons, List.length_nil]; omega)
        | cons b y => exact (tot_list tot_words).trans _ _ _ h1 h2
def verP (v : Ver) : List UInt8 × List UInt8 × List UInt8 × List (List UInt8) := (v.a, v.b, v.c, v.p)
def verC (x y : Ver) : Int := lexC numC (lexC numC (lexC numC preV)) (verP x) (verP y)
theorem tot_ver : Tot verC where
  flip := fun x y => (tot_lex tot_numC (tot_lex tot_numC (tot_lex tot_numC tot_preV))).flip (verP x) (verP y)
  zero := fun x y => by
    refine ((tot_lex tot_numC (tot_lex tot_numC (tot_lex tot_numC tot_preV))).zero (verP x) (verP y)).trans ?_
    constructor
    · intro h
      obtain ⟨a, b, c, p⟩ := x
      obtain ⟨a', b', c', p'⟩ := y
      simp only [verP, Prod.mk.injEq] at h
      obtain ⟨rfl, rfl, rfl, rfl⟩ := h
      rfl
    · intro h; rw [h]
  trans := fun x y z h1 h2 => (tot_lex tot_numC (tot_lex tot_numC (tot_lex tot_numC tot_preV))).trans (verP x) (verP y) (verP z) h1 h2
theorem verC_eq (x y : Ver) : verC x y = if numC x.a y.a = 0 then (if numC x.b y.b = 0 then (if numC x.c y.c = 0 then preV x.p y.p else numC x.c y.c) else numC x.b y.b) else numC x.a y.a := rfl
theorem verC_orL (x y : Ver) (h : ¬ (x.a = y.a ∧ x.b = y.b ∧ x.c = y.c)) : verC x y = orL [numC x.a y.a, numC x.b y.b, numC x.c y.c] := by
  rw [verC_eq]
  simp only [orL]
  by_cases h1 : numC x.a y.a = 0
  · rw [if_pos h1, if_pos h1]
    by_cases h2 : numC x.b y.b = 0
    · rw [if_pos h2, if_pos h2]
      by_cases h3 : numC x.c y.c = 0
      · exact absurd ⟨(tot_numC.zero _ _).1 h1, (tot_numC.zero _ _).1 h2, (tot_numC.zero _ _).1 h3⟩ h
      · rw [if_neg h3, if_neg h3]
    · rw [if_neg h2, if_neg h2]
  · rw [if_neg h1, if_neg h1]
theorem verC_pre (x y : Ver) (h : x.a = y.a ∧ x.b = y.b ∧ x.c = y.c) : verC x y = preV x.p y.p := by
  rw [verC_eq]
  rw [if_pos ((tot_numC.zero _ _).2 h.1), if_pos ((tot_numC.zero _ _).2 h.2.1), if_pos ((tot_numC.zero _ _).2 h.2.2)]

/-! ### Cmp -/
theorem Cmp_loop (x y : List ByteArray) (a b c a' b' c' : ByteArray) (hx : x.length ≤ 1000000001) (hy : y.length ≤ 1000000001) (hmx : ∀ s, s ∈ x → s.size ≤ 1000000000) (hmy : ∀ s, s ∈ y → s.size ≤ 1000000000) (d : Nat) : ∀ i : Nat, i + d = min x.length y.length →
    Ev (fun k => version_Cmp.l0 k ((min x.length y.length : Nat) : Int) i a b c x a' b' c' y) (listC wordsL ((x.map L).drop i) ((y.map L).drop i), 0) := by
  induction d with
  | zero =>
    intro i hi
    refine ev_step (fun k => by rw [version_Cmp.l0]) ?_
    refine ev_neg (by omega) ?_
    rw [Compare_eq]
    refine ev_now ?_
    congr 1
    have hxl : (x.map L).length = x.length := List.length_map _
    have hyl : (y.map L).length = y.length := List.length_map _
    unfold cmpI
    rcases Nat.lt_trichotomy x.length y.length with h | h | h
    · rw [if_pos (by omega), List.drop_eq_nil_of_le (by omega), List.drop_eq_getElem_cons (by omega)]; rfl
    · rw [if_neg (by omega), if_neg (by omega), List.drop_eq_nil_of_le (by omega), List.drop_eq_nil_of_le (by omega)]; rfl
    · rw [if_neg (by omega), if_pos (by omega), show (y.map L).drop i = [] from List.drop_eq_nil_of_le (by omega), List.drop_eq_getElem_cons (by omega)]; rfl
  | succ d ih =>
    intro i hi
    have hix : i < x.length := by omega
    have hiy : i < y.length := by omega
    refine ev_step (fun k => by rw [version_Cmp.l0]) ?_
    refine ev_pos (by omega) (ev_pos (by omega) (ev_pos (by omega) (ev_pos (by omega) ?_)))
    rw [rdOf_at _ x i hix, rdOf_at _ y i hiy, w_succ i (by omega), List.drop_eq_getElem_cons (l := x.map L) (by rw [List.length_map]; exact hix), List.drop_eq_getElem_cons (l := y.map L) (by rw [List.length_map]; exact hiy), List.getElem_map, List.getElem_map, listC]
    refine ev_bind (words_ev _ _ (hmx _ (List.getElem_mem _)) (hmy _ (List.getElem_mem _))) ?_
    refine ev_ite (fun h => ?_) (fun h => ?_)
    · rw [if_pos h]; exact ih (i + 1) (by omega)
    · rw [if_neg h]; exact ev_now rfl
theorem coreL_some {l a b c : List UInt8} (h : coreL l = some (a, b, c)) : partsL 46 l = [a, b, c] ∧ numL a = true ∧ numL b = true ∧ numL c = true := by
  unfold coreL at h
  split at h
  · rename_i a' b' c' hp
    split at h
    · rename_i hn
      simp only [Option.some.injEq, Prod.mk.injEq] at h
      obtain ⟨rfl, rfl, rfl⟩ := h
      simp only [Bool.and_eq_true] at hn
      exact ⟨hp, hn.1.1, hn.1.2, hn.2⟩
    · cases h
  · cases h
theorem splitL_some {l : List UInt8} {v : Ver} (h : splitL l = some v) : ∃ t, l = 118 :: t ∧ partsL 46 (cutL t).1 = [v.a, v.b, v.c] ∧ numL v.a = true ∧ numL v.b = true ∧ numL v.c = true ∧ v.p.all wordL = true ∧ (if (cutL t).2.2 then v.p = partsL 46 (cutL t).2.1 else v.p = []) := by
  cases l with
  | nil => cases h
  | cons b t =>
    rw [splitL_cons] at h
    unfold splitC at h
    split at h
    · rename_i hb
      split at h
      · rename_i a b c hc
        obtain ⟨h1, h2, h3, h4⟩ := coreL_some hc
        split at h
        · rename_i hh
          split at h
          · rename_i hw
            obtain rfl := Option.some.inj h
            exact ⟨t, by rw [hb], h1, h2, h3, h4, hw, by rw [if_pos hh]⟩
          · cases h
        · rename_i hh
          obtain rfl := Option.some.inj h
          exact ⟨t, by rw [hb], h1, h2, h3, h4, rfl, by rw [if_neg hh]⟩
      · cases h
    · cases h
theorem splitL_sizes {l : List UInt8} {v : Ver} (h : splitL l = some v) : v.a.length ≤ l.length ∧ v.b.length ≤ l.length ∧ v.c.length ≤ l.length ∧ v.p.length ≤ l.length + 1 ∧ ∀ x, x ∈ v.p → x.length ≤ l.length := by
  obtain ⟨t, rfl, hp, -, -, -, -, hq⟩ := splitL_some h
  have hs := cutL_sizes t
  have hpl := part_le 46 (cutL t).1
  rw [hp] at hpl
  have h1 := hpl v.a (by simp)
  have h2 := hpl v.b (by simp)
  have h3 := hpl v.c (by simp)
  simp only [List.length_cons]
  refine ⟨by omega, by omega, by omega, ?_⟩
  split at hq
  · rw [hq]
    have := (partsL_length 46 (cutL t).2.1).1
    refine ⟨by omega, fun x hx => ?_⟩
    have := part_le 46 _ x hx
    omega
  · rw [hq]; simp
def cmpR (x y : Option Ver) : Int × Int := match x, y with
  | some v, some w => (verC v w, 0)
  | _, _ => (0, 1)
theorem map_L_mkB (l : List (List UInt8)) : (l.map mkB).map L = l := by
  rw [List.map_map]
  exact List.map_id'' (fun _ => rfl) _
theorem mkB_toList (l : List UInt8) : (mkB l).toList = l := by rw [toList_L, L_mkB]
theorem verCmp_ev (s t : ByteArray) (hs : s.size ≤ 1000000) (ht : t.size ≤ 1000000) : Ev (fun k => version_Cmp.f k s t) (cmpR (splitL (L s)) (splitL (L t))) := by
  have hbad : ∀ (a b c : ByteArray) (p : List ByteArray) (a' b' c' : ByteArray) (p' : List ByteArray), Ev (fun k => version_Cmp.j0 k true a b c p a' b' c' p') (0, 1) := by
    intro a b c p a' b' c' p'
    refine ev_step (fun k => by rw [version_Cmp.j0]) ?_
    exact ev_pos rfl (ev_now rfl)
  unfold version_Cmp.f
  refine ev_bind (Split_ev s hs) (ev_bind (Split_ev t ht) ?_)
  cases hx : splitL (L s) with
  | none => exact ev_neg (by decide) (hbad _ _ _ _ _ _ _ _)
  | some v =>
    cases hy : splitL (L t) with
    | none => exact ev_pos rfl (hbad _ _ _ _ _ _ _ _)
    | some w =>
      refine ev_pos rfl ?_
      have sv := splitL_sizes hx
      have sw := splitL_sizes hy
      rw [L_size] at sv sw
      obtain ⟨_, -, -, nv1, nv2, nv3, -, -⟩ := splitL_some hx
      obtain ⟨_, -, -, nw1, nw2, nw3, -, -⟩ := splitL_some hy
      refine ev_step (fun k => by rw [version_Cmp.j0]) ?_
      refine ev_neg (by simp [verR]) ?_
      simp only [verR, cmpR, mkB_toList]
      refine ev_ite (fun h => ?_) (fun h => ?_)
      · rw [verC_orL v w (by
          intro ⟨e1, e2, e3⟩
          rw [e1, e2, e3] at h
          simp at h)]
        have g1 := numbers_ev (mkB v.a) (mkB w.a) (by rw [mkB_size]; omega) (by rw [mkB_size]; omega)
        have g2 := numbers_ev (mkB v.b) (mkB w.b) (by rw [mkB_size]; omega) (by rw [mkB_size]; omega)
        have g3 := numbers_ev (mkB v.c) (mkB w.c) (by rw [mkB_size]; omega) (by rw [mkB_size]; omega)
        simp only [L_mkB, numbersL, nv1, nv2, nv3, nw1, nw2, nw3, Bool.and_self, if_true] at g1 g2 g3
        exact ev_bind g1 (ev_bind g2 (ev_bind g3 (ev_bind (Or_ev _ (by simp)) (ev_now rfl))))
      · have hc : v.a = w.a ∧ v.b = w.b ∧ v.c = w.c := by
          simpa using h
        rw [verC_pre v w hc]
        have hj1 : ∀ bb : Bool, bb = (v.p.isEmpty || w.p.isEmpty) → Ev (fun k => version_Cmp.j1 k bb (mkB v.a) (mkB v.b) (mkB v.c) (v.p.map mkB) (mkB w.a) (mkB w.b) (mkB w.c) (w.p.map mkB)) (preV v.p w.p, 0) := by
          intro bb hbb
          refine ev_step (fun k => by rw [version_Cmp.j1]) ?_
          rw [Compare_eq, List.length_map, List.length_map]
          unfold preV
          rw [← hbb]
          cases bb with
          | true => exact ev_pos rfl (ev_now rfl)
          | false =>
            refine ev_neg (by decide) ?_
            rw [mn_eq]
            have h := Cmp_loop (v.p.map mkB) (w.p.map mkB) (mkB v.a) (mkB v.b) (mkB v.c) (mkB w.a) (mkB w.b) (mkB w.c) (by rw [List.length_map]; omega) (by rw [List.length_map]; omega) (fun x hx => by
              obtain ⟨y, hy, rfl⟩ := List.mem_map.1 hx
              have := sv.2.2.2.2 y hy
              rw [mkB_size]; omega) (fun x hx => by
              obtain ⟨y, hy, rfl⟩ := List.mem_map.1 hx
              have := sw.2.2.2.2 y hy
              rw [mkB_size]; omega) (min (v.p.map mkB).length (w.p.map mkB).length) 0 (by omega)
            rw [map_L_mkB, map_L_mkB, List.drop_zero, List.drop_zero, List.length_map, List.length_map] at h
            exact h
        refine ev_ite (fun h0 => hj1 _ ?_) (fun h0 => hj1 _ ?_)
        · rw [List.length_map] at h0
          have : v.p = [] := List.eq_nil_of_length_eq_zero (by omega)
          rw [this]; rfl
        · rw [List.length_map] at h0
          have : v.p.isEmpty = false := by
            cases hv : v.p with
            | nil => rw [hv] at h0; exact absurd rfl h0
            | cons => rfl
          rw [this, Bool.false_or, List.length_map]
          cases w.p with
          | nil => rfl
          | cons x l => simp; omega

/-! ### put together -/
def joinV (v : Ver) : List UInt8 := 118 :: ((v.a ++ 46 :: (v.b ++ 46 :: v.c)) ++ (if v.p.isEmpty then [] else 45 :: joinL 46 v.p))
def verOkV (v : Ver) : Bool := numL v.a && numL v.b && numL v.c && v.p.all wordL
theorem cutL_back : ∀ l : List UInt8, (cutL l).1 ++ (if (cutL l).2.2 then 45 :: (cutL l).2.1 else []) = l
  | [] => rfl
  | b :: l => by
    have ih := cutL_back l
    rw [cutL]
    by_cases h : b = 45
    · rw [if_pos h, h]; rfl
    · rw [if_neg h]
      simp only [List.cons_append]
      rw [ih]
theorem core_of {l a b c : List UInt8} (h : partsL 46 l = [a, b, c]) : l = a ++ 46 :: (b ++ 46 :: c) := by
  have := joinL_parts 46 l
  rw [h] at this
  exact this.symm
theorem join_of_split {l : List UInt8} {v : Ver} (h : splitL l = some v) : joinV v = l := by
  obtain ⟨t, rfl, hp, -, -, -, -, hq⟩ := splitL_some h
  have hcore := core_of hp
  have hback := cutL_back t
  unfold joinV
  rw [← hcore]
  congr 1
  conv => rhs; rw [← hback]
  cases hf : (cutL t).2.2 with
  | true =>
    rw [hf, if_pos rfl] at hq
    have hne : v.p.isEmpty = false := by
      rw [hq]
      have := partsL_ne 46 (cutL t).2.1
      cases hx : partsL 46 (cutL t).2.1 with
      | nil => exact absurd hx this
      | cons => rfl
    rw [hne, hq, joinL_parts]; rfl
  | false =>
    rw [hf, if_neg (by decide)] at hq
    rw [hq]; rfl
theorem splitL_inj {l m : List UInt8} {v : Ver} (h : splitL l = some v) (h' : splitL m = some v) : l = m := (join_of_split h).symm.trans (join_of_split h')
end Go.Proofs.YtknmfmedklfepaaGreatDoor.Q

/-
  What the printed functions of layer 4 (path) and its reference come to.
-/
namespace Go.Proofs.YtknmfmedklfepaaGreatDoor.Q
open Go.RowKit Go.Proofs.YtknmfmedklfepaaGreatDoor.P Go.Proofs.YtknmfmedklfepaaGreatDoorB Go.Proofs.YtknmfmedklfepaaGreatDoorW.PrintWords Go.Proofs.YtknmfmedklfepaaGreatDoorW.PrintLast Go.Proofs.YtknmfmedklfepaaGreatDoorW.PrintMore
set_option linter.unusedSimpArgs false

/-- Is a text a path? -/
def isPath (l : List UInt8) : Bool := (partsL 47 l).all elemL
def withinL (p q : List UInt8) : Bool := isPath p && isPath q && (p ++ [47]).isPrefixOf (q ++ [47])

theorem elem_eq (s : ByteArray) (hs : s.size ≤ 1000000000) : path_element.f s = some (elemL (L s)) := by
  unfold path_element.f
  rw [if_pos hs]
  rfl
theorem Elements_loop (x l : List ByteArray) (hl : l.length ≤ 1000000001) (hm : ∀ s, s ∈ l → s.size ≤ 1000000000) (d : Nat) : ∀ i : Nat, i + d = l.length →
    Ev (fun k => path_Elements.l0 k x l l.length i) (if (l.drop i).all fun s => elemL (L s) then (x, 0) else ([], 1)) := by
  induction d with
  | zero =>
    intro i hi
    refine ev_step (fun k => by rw [path_Elements.l0]) ?_
    refine ev_neg (by omega) (ev_now ?_)
    rw [List.drop_eq_nil_of_le (by omega)]; rfl
  | succ d ih =>
    intro i hi
    have hil : i < l.length := by omega
    refine ev_step (fun k => by rw [path_Elements.l0]) ?_
    refine ev_pos (by omega) (ev_pos (by omega) (ev_pos (by omega) ?_))
    rw [rdOf_at _ l i hil, elem_eq _ (hm _ (List.getElem_mem _)), w_succ i (by omega), List.drop_eq_getElem_cons hil, List.all_cons]
    refine ev_some ?_
    refine ev_ite (fun h => ?_) (fun h => ?_)
    · rw [h, Bool.true_and]
      exact ih (i + 1) (by omega)
    · have h' : elemL (L l[i]) = false := by simpa using h
      rw [h', Bool.false_and]
      exact ev_now rfl
theorem Elements_ev (s : ByteArray) (hs : s.size ≤ 1000000000) : Ev (fun k => path_Elements.f k s) (if isPath (L s) then (partsB 47 s, 0) else ([], 1)) := by
  unfold path_Elements.f
  have hl := (partsL_length 47 (L s)).1
  have hz := L_size s
  rw [Parts_eq s 47 (by decide) (by decide) hs]
  refine ev_some ?_
  have h := Elements_loop (partsB 47 s) (partsB 47 s) (by rw [partsB_length]; omega) (fun p hp => by
    simp only [partsB, List.mem_map] at hp
    obtain ⟨q, hq, rfl⟩ := hp
    have := part_le 47 (L s) q hq
    rw [← L_size, L_mk]; omega) (partsB 47 s).length 0 (by omega)
  have he : ((partsB 47 s).drop 0).all (fun s => elemL (L s)) = isPath (L s) := by
    unfold isPath partsB
    rw [List.drop_zero, List.all_map]
    rfl
  rw [he] at h
  exact h
theorem May_ev (s : ByteArray) (hs : s.size ≤ 1000000000) : Ev (fun k => path_May.f k s) (isPath (L s)) := by
  unfold path_May.f
  refine ev_bind (Elements_ev s hs) (ev_now ?_)
  cases isPath (L s) <;> rfl


end Go.Proofs.YtknmfmedklfepaaGreatDoor.Q

/-
  What the printed functions of layers 5 (node) and 17 (list) come to.
-/
namespace Go.Proofs.YtknmfmedklfepaaGreatDoor.Q
open Go.RowKit Go.Proofs.YtknmfmedklfepaaGreatDoor.P Go.Proofs.YtknmfmedklfepaaGreatDoorB Go.Proofs.YtknmfmedklfepaaGreatDoorW.PrintWords Go.Proofs.YtknmfmedklfepaaGreatDoorW.PrintLast Go.Proofs.YtknmfmedklfepaaGreatDoorW.PrintMore
set_option linter.unusedSimpArgs false
set_option linter.unusedVariables false
abbrev Nd := S55
theorem nd_ext {x y : Nd} (h0 : x.f0 = y.f0) (h1 : x.f1 = y.f1) : x = y := by
  cases x; cases y; cases h0; cases h1; rfl
theorem rdN_at (l : List Nd) (i : Nat) (h : i < l.length) : rd_T55 l (i : Int) = l[i] := by
  simp [rd_T55, List.getD_eq_getElem?_getD, h]

/-! ### nodes -/
def nodeOk (n : Nd) : Bool := isPath (L n.f0) && verOk (L n.f1)
theorem nodeMay_ev (p v : ByteArray) (hp : p.size ≤ 1000000) (hv : v.size ≤ 1000000) : Ev (fun k => node_May.f k p v) (isPath (L p) && verOk (L v)) := by
  unfold node_May.f
  refine ev_bind (May_ev p (by omega)) ?_
  cases isPath (L p) with
  | false => exact ev_neg (by decide) (ev_now rfl)
  | true => exact ev_pos rfl (ev_last (verMay_ev v hv))
def fewN (n : Nd) : Nd := ⟨few n.f0, few n.f1⟩
def fewL (l : List Nd) : List Nd := (l.take 24).map fewN
def smN (n : Nd) : Prop := n.f0.size ≤ 400 ∧ n.f1.size ≤ 400
def smallL (l : List Nd) : Prop := ∀ n, n ∈ l → smN n
def okL (l : List Nd) : Prop := ∀ n, n ∈ l → nodeOk n = true
theorem One_eq (p v : ByteArray) : graftwoodlaw05_One.f p v = some (few p, few v) := by
  unfold graftwoodlaw05_One.f
  rw [Few_eq, Few_eq]; rfl
/-! ### their order -/
def dV : Ver := ⟨[], [], [], []⟩
def vN (n : Nd) : Ver := (splitL (L n.f1)).getD dV
theorem vN_some {n : Nd} (h : nodeOk n = true) : splitL (L n.f1) = some (vN n) := by
  unfold nodeOk verOk at h
  simp only [Bool.and_eq_true] at h
  obtain ⟨v, hv⟩ := Option.isSome_iff_exists.1 h.2
  unfold vN
  rw [hv]; rfl
def nodeC (a b : Nd) : Int := lexC cmpL verC (L a.f0, vN a) (L b.f0, vN b)
theorem nodeC_lt {a b c : Nd} (h1 : nodeC a b < 0) (h2 : nodeC b c < 0) : nodeC a c < 0 := Tot.strictL (tot_lex tot_cmpL tot_ver) h1 (by unfold nodeC at h2; omega)
theorem nodeC_zero {a b : Nd} (ha : nodeOk a = true) (hb : nodeOk b = true) : nodeC a b = 0 ↔ a = b := by
  unfold nodeC
  rw [(tot_lex tot_cmpL tot_ver).zero]
  constructor
  · intro h
    simp only [Prod.mk.injEq] at h
    have h1 := vN_some ha
    have h2 := vN_some hb
    rw [← h.2] at h2
    exact nd_ext (L_inj h.1) (L_inj (splitL_inj h1 h2))
  · intro h; rw [h]
theorem eq_nd (x n : Nd) : (x.f0.toList == n.f0.toList && x.f1.toList == n.f1.toList) = decide (x.f0 = n.f0 ∧ x.f1 = n.f1) := by
  rw [toList_L, toList_L, toList_L, toList_L, Bool.eq_iff_iff]
  simp only [Bool.and_eq_true, beq_iff_eq, decide_eq_true_eq]
  exact ⟨fun h => ⟨L_inj h.1, L_inj h.2⟩, fun h => ⟨by rw [h.1], by rw [h.2]⟩⟩
theorem nodeOrder_ev (a b : Nd) (ha : nodeOk a = true) (hb : nodeOk b = true) (sa : smN a) (sb : smN b) : Ev (fun k => node_order.f k a.f0 a.f1 b.f0 b.f1) (nodeC a b) := by
  unfold node_order.f
  rw [eq_nd]
  obtain ⟨sa0, sa1⟩ := sa
  obtain ⟨sb0, sb1⟩ := sb
  refine ev_ite (fun h => ?_) (fun h => ?_)
  · have h' := of_decide_eq_true h
    exact ev_now ((nodeC_zero ha hb).2 (nd_ext h'.1 h'.2)).symm
  · refine ev_bind (verCmp_ev a.f1 b.f1 (by omega) (by omega)) ?_
    rw [Cmp_eq, vN_some ha, vN_some hb]
    refine ev_some (ev_last ?_)
    have h1 := Or_ev [cmpL (L a.f0) (L b.f0), verC (vN a) (vN b)] (by simp)
    have e : orL [cmpL (L a.f0) (L b.f0), verC (vN a) (vN b)] = nodeC a b := by
      simp only [orL, nodeC, lexC]
      by_cases hc : cmpL (L a.f0) (L b.f0) = 0
      · rw [if_pos hc, if_pos hc]
        by_cases hv : verC (vN a) (vN b) = 0
        · rw [if_pos hv, hv]
        · rw [if_neg hv]
      · rw [if_neg hc, if_neg hc]
    rw [e] at h1
    exact h1
/-! ### sets of nodes -/
def chkP : Option Nd → List Nd → Bool
  | _, [] => true
  | none, n :: t => nodeOk n && chkP (some n) t
  | some q, n :: t => nodeOk n && (decide (nodeC q n < 0) && chkP (some n) t)
def chk (l : List Nd) : Bool := chkP none l
def srt (l : List Nd) : Prop := l.Pairwise (fun a b => nodeC a b < 0)
theorem chkP_some : ∀ (l : List Nd) (q : Nd), chkP (some q) l = true ↔ okL l ∧ srt (q :: l)
  | [], q => by simp [chkP, okL, srt]
  | n :: t, q => by
    rw [chkP, Bool.and_eq_true, Bool.and_eq_true, decide_eq_true_eq, chkP_some t n]
    unfold srt okL
    rw [List.pairwise_cons (a := q)]
    constructor
    · rintro ⟨h1, h2, h3, h4⟩
      refine ⟨fun x hx => ?_, fun x hx => ?_, h4⟩
      · rcases List.mem_cons.1 hx with rfl | hx
        · exact h1
        · exact h3 x hx
      · rcases List.mem_cons.1 hx with rfl | hx
        · exact h2
        · exact nodeC_lt h2 ((List.pairwise_cons.1 h4).1 x hx)
    · rintro ⟨h1, h2, h3⟩
      exact ⟨h1 n (by simp), h2 n (by simp), fun x hx => h1 x (List.mem_cons_of_mem _ hx), h3⟩
theorem chk_iff (l : List Nd) : chk l = true ↔ okL l ∧ srt l := by
  unfold chk
  cases l with
  | nil => simp [chkP, okL, srt]
  | cons n t =>
    rw [chkP, Bool.and_eq_true, chkP_some]
    constructor
    · rintro ⟨h1, h2, h3⟩
      refine ⟨fun x hx => ?_, h3⟩
      rcases List.mem_cons.1 hx with rfl | hx
      · exact h1
      · exact h2 x hx
    · rintro ⟨h1, h2⟩
      exact ⟨h1 n (by simp), fun x hx => h1 x (List.mem_cons_of_mem _ hx), h2⟩


/-! ### build lists -/
theorem nodeMay5_ev (n : Nd) (hS : smN n) : Ev (fun k => node_May.f k n.f0 n.f1) (nodeOk n) := nodeMay_ev n.f0 n.f1 (by have := hS.1; omega) (by have := hS.2; omega)
theorem nchk_loop (l : List Nd) (hS : smallL l) (hl : l.length ≤ 1000000) (d : Nat) : ∀ (i : Nat) (q : Option Nd), i + d = l.length → (i = 0 → q = none) → (∀ j (h : j < l.length), i = j + 1 → q = some l[j] ∧ nodeOk l[j] = true) → Ev (fun k => node_Check.l0 k l l l.length i) (if chkP q (l.drop i) = true then 0 else 1) := by
  induction d with
  | zero =>
    intro i q hi h0 h1
    rw [List.drop_eq_nil_of_le (by omega)]
    refine ev_step (fun k => by rw [node_Check.l0]) ?_
    refine ev_neg (by omega) (ev_now ?_)
    cases q <;> rfl
  | succ d ih =>
    intro i q hi h0 h1
    have hil : i < l.length := by omega
    have hs := hS l[i] (List.getElem_mem hil)
    rw [List.drop_eq_getElem_cons hil]
    refine ev_step (fun k => by rw [node_Check.l0]) ?_
    refine ev_pos (by omega) (ev_pos (by omega) (ev_pos (by omega) ?_))
    rw [rdN_at l i hil, w_succ i (by omega)]
    refine ev_bind (nodeMay5_ev l[i] hs) ?_
    cases hok : nodeOk l[i] with
    | false =>
      refine ev_neg (by decide) (ev_now ?_)
      cases q <;> simp [chkP, hok]
    | true =>
      refine ev_pos rfl ?_
      have hn := ih (i + 1) (some l[i]) (by omega) (by omega) (fun j h e => by
        obtain rfl : j = i := by omega
        exact ⟨rfl, hok⟩)
      cases i with
      | zero =>
        obtain rfl := h0 rfl
        refine ev_neg (by omega) ?_
        rw [chkP, hok, Bool.true_and]
        exact hn
      | succ j =>
        obtain ⟨rfl, hj⟩ := h1 j (by omega) rfl
        have hw : wrap64 (((j + 1 : Nat) : Int) - 1) = (j : Int) := by rw [w_small (by omega) (by omega)]; omega
        refine ev_pos (by omega) ?_
        rw [hw]
        refine ev_pos (by omega) (ev_pos (by omega) ?_)
        rw [rdN_at l j (by omega)]
        refine ev_bind (nodeOrder_ev l[j] l[j + 1] hj hok (hS _ (List.getElem_mem _)) hs) (ev_ite (fun h => ev_now ?_) (fun h => ?_))
        · rw [chkP, hok, decide_eq_false (by omega)]; rfl
        · rw [chkP, hok, Bool.true_and, decide_eq_true (by omega), Bool.true_and]; exact hn
theorem nodeCheck_ev (l : List Nd) (hS : smallL l) (hl : l.length ≤ 1000000) : Ev (fun k => node_Check.f k l) (if chk l = true then 0 else 1) := by
  unfold node_Check.f
  have h := nchk_loop l hS hl l.length 0 none (by omega) (fun _ => rfl) (fun j h e => by omega)
  rw [List.drop_zero] at h
  exact h
/-- No two neighbours of one path. -/
def adjP : Option Nd → List Nd → Bool
  | _, [] => true
  | none, n :: t => adjP (some n) t
  | some q, n :: t => !decide (q.f0 = n.f0) && adjP (some n) t
def okB (l : List Nd) : Bool := adjP none l && chk l
theorem path_eq (x y : ByteArray) : x.toList = y.toList ↔ x = y := by
  rw [toList_L, toList_L]
  exact ⟨L_inj, fun h => by rw [h]⟩
theorem lchk_loop (l : List Nd) (hS : smallL l) (hl : l.length ≤ 1000000) (d : Nat) : ∀ (i : Nat) (q : Option Nd), i + d = l.length → (i = 0 → q = none) → (∀ j (h : j < l.length), i = j + 1 → q = some l[j]) → Ev (fun k => list_Check.l0 k l l.length i) (if (adjP q (l.drop i) && chk l) = true then 0 else 1) := by
  induction d with
  | zero =>
    intro i q hi h0 h1
    rw [List.drop_eq_nil_of_le (by omega)]
    refine ev_step (fun k => by rw [list_Check.l0]) ?_
    refine ev_neg (by omega) (ev_last ?_)
    have e : adjP q [] = true := by cases q <;> rfl
    rw [e, Bool.true_and]
    exact nodeCheck_ev l hS hl
  | succ d ih =>
    intro i q hi h0 h1
    have hil : i < l.length := by omega
    rw [List.drop_eq_getElem_cons hil]
    refine ev_step (fun k => by rw [list_Check.l0]) ?_
    refine ev_pos (by omega) ?_
    rw [w_succ i (by omega)]
    have hn := ih (i + 1) (some l[i]) (by omega) (by omega) (fun j h e => by
      obtain rfl : j = i := by omega
      rfl)
    cases i with
    | zero =>
      obtain rfl := h0 rfl
      exact ev_neg (by omega) hn
    | succ j =>
      obtain rfl := h1 j (by omega) rfl
      have hw : wrap64 (((j + 1 : Nat) : Int) - 1) = (j : Int) := by rw [w_small (by omega) (by omega)]; omega
      refine ev_pos (by omega) ?_
      rw [hw]
      refine ev_pos (by omega) (ev_pos (by omega) (ev_pos (by omega) (ev_pos (by omega) ?_)))
      rw [rdN_at l j (by omega), rdN_at l (j + 1) hil]
      refine ev_ite (fun h => ev_now ?_) (fun h => ?_)
      · rw [adjP, decide_eq_true ((path_eq _ _).1 h)]; rfl
      · rw [adjP, decide_eq_false (fun e => h ((path_eq _ _).2 e)), Bool.not_false, Bool.true_and]; exact hn
theorem listCheck_ev (l : List Nd) (hS : smallL l) (hl : l.length ≤ 1000000) : Ev (fun k => list_Check.f k l) (if okB l = true then 0 else 1) := by
  unfold list_Check.f
  have h := lchk_loop l hS hl l.length 0 none (by omega) (fun _ => rfl) (fun j h e => by omega)
  rw [List.drop_zero] at h
  exact h
def pth (a b : Nd) : Prop := cmpL (L a.f0) (L b.f0) < 0
theorem pth_trans {a b c : Nd} (h : pth a b) (h' : pth b c) : pth a c := tot_cmpL.strictL h (by unfold pth at h'; omega)
theorem pth_node {a b : Nd} (h : pth a b) : nodeC a b < 0 := by
  unfold pth at h
  unfold nodeC lexC
  simp only
  rw [if_neg (by omega)]
  exact h
theorem pth_ne {a b : Nd} (h : pth a b) : a.f0 ≠ b.f0 := fun e => by
  unfold pth at h
  rw [e, cmpL_self] at h
  omega
theorem node_pth {a b : Nd} (h : nodeC a b < 0) (hn : a.f0 ≠ b.f0) : pth a b := by
  unfold nodeC lexC at h
  simp only at h
  rw [if_neg (fun e => hn (L_inj (cmpL_zero.1 e)))] at h
  exact h
theorem adjP_some : ∀ (l : List Nd) (q : Nd), srt (q :: l) → (adjP (some q) l = true ↔ (q :: l).Pairwise pth)
  | [], q, _ => by simp [adjP]
  | n :: t, q, h => by
    have h2 : srt (n :: t) := (List.pairwise_cons.1 h).2
    rw [adjP, Bool.and_eq_true, adjP_some t n h2, Bool.not_eq_true', decide_eq_false_iff_not, List.pairwise_cons (a := q)]
    have hq := (List.pairwise_cons.1 h).1
    constructor
    · rintro ⟨h3, h4⟩
      have h5 := node_pth (hq n (by simp)) h3
      refine ⟨fun x hx => ?_, h4⟩
      rcases List.mem_cons.1 hx with rfl | hx
      · exact h5
      · exact pth_trans h5 ((List.pairwise_cons.1 h4).1 x hx)
    · rintro ⟨h3, h4⟩
      exact ⟨pth_ne (h3 n (by simp)), h4⟩
theorem okB_iff (l : List Nd) : okB l = true ↔ okL l ∧ l.Pairwise pth := by
  unfold okB
  rw [Bool.and_eq_true, chk_iff]
  constructor
  · rintro ⟨h1, h2, h3⟩
    refine ⟨h2, ?_⟩
    cases l with
    | nil => exact List.Pairwise.nil
    | cons n t => exact (adjP_some t n h3).1 h1
  · rintro ⟨h1, h2⟩
    have h3 : srt l := h2.imp pth_node
    refine ⟨?_, h1, h3⟩
    cases l with
    | nil => rfl
    | cons n t => exact (adjP_some t n h3).2 h2
/-- The version that a path has: the first one. -/
def pickL (p : ByteArray) : List Nd → ByteArray
  | [] => ⟨#[]⟩
  | n :: t => if n.f0 = p then n.f1 else pickL p t
theorem pickL_none {p : ByteArray} : ∀ {l : List Nd}, (∀ n, n ∈ l → n.f0 ≠ p) → pickL p l = ⟨#[]⟩
  | [], _ => rfl
  | n :: t, h => by rw [pickL, if_neg (h n (by simp)), pickL_none (fun x hx => h x (List.mem_cons_of_mem _ hx))]
theorem pickL_mem {n : Nd} : ∀ {l : List Nd}, l.Pairwise pth → n ∈ l → pickL n.f0 l = n.f1
  | [], _, h => by simp at h
  | m :: t, hp, h => by
    rcases List.mem_cons.1 h with rfl | h
    · rw [pickL, if_pos rfl]
    · rw [pickL, if_neg (pth_ne ((List.pairwise_cons.1 hp).1 n h)), pickL_mem (List.pairwise_cons.1 hp).2 h]
theorem lastG_none {p : ByteArray} : ∀ {l : List Nd} {v : ByteArray}, (∀ n, n ∈ l → n.f0 ≠ p) → l.foldl (fun v n => if n.f0 = p then n.f1 else v) v = v
  | [], _, _ => rfl
  | n :: t, v, h => by rw [List.foldl_cons, if_neg (h n (by simp)), lastG_none (fun x hx => h x (List.mem_cons_of_mem _ hx))]
theorem lastL_pick {p : ByteArray} {l : List Nd} (hp : l.Pairwise pth) : lastL p l = pickL p l := by
  by_cases h : ∃ n, n ∈ l ∧ n.f0 = p
  · obtain ⟨n, hn, rfl⟩ := h
    rw [pickL_mem hp hn]
    obtain ⟨A, B, rfl⟩ := List.append_of_mem hn
    have hB : ∀ x, x ∈ B → x.f0 ≠ n.f0 := fun x hx e => pth_ne ((List.pairwise_cons.1 (List.pairwise_append.1 hp).2.1).1 x hx) e.symm
    unfold lastL
    rw [List.foldl_append, List.foldl_cons, if_pos rfl, lastG_none hB]
  · have h' : ∀ n, n ∈ l → n.f0 ≠ p := fun n hn e => h ⟨n, hn, e⟩
    rw [pickL_none h']
    exact lastG_none h'
theorem pickL_cases (p : ByteArray) : ∀ l : List Nd, (pickL p l = ⟨#[]⟩ ∧ ∀ n, n ∈ l → n.f0 ≠ p) ∨ ∃ n, n ∈ l ∧ n.f0 = p ∧ pickL p l = n.f1
  | [] => .inl ⟨rfl, fun n h => by simp at h⟩
  | m :: t => by
    by_cases e : m.f0 = p
    · exact .inr ⟨m, by simp, e, by rw [pickL, if_pos e]⟩
    · rw [pickL, if_neg e]
      rcases pickL_cases p t with ⟨h1, h2⟩ | ⟨n, hn, h1, h2⟩
      · refine .inl ⟨h1, fun n hn => ?_⟩
        rcases List.mem_cons.1 hn with rfl | hn
        · exact e
        · exact h2 n hn
      · exact .inr ⟨n, List.mem_cons_of_mem _ hn, h1, h2⟩
theorem ver_ne {l : List UInt8} (h : verOk l = true) : l ≠ [] := fun e => by rw [e] at h; exact absurd h (by decide)
theorem okP_few (l : List Nd) (hS : smallL l) (hl : l.length ≤ 1000000) : okP l = true := by
  unfold okP
  rw [Bool.and_eq_true, decide_eq_true_eq, List.all_eq_true]
  exact ⟨by omega, fun n hn => decide_eq_true (by have := (hS n hn).1; omega)⟩
theorem both_ev (a b : List Nd) (ha : smallL a) (hb : smallL b) (la : a.length ≤ 1000000) (lb : b.length ≤ 1000000) : Ev (fun k => bothF k a b) (if (okB a && okB b) = true then 0 else 1) := by
  unfold bothF
  refine ev_pos (by rw [okP_few a ha la, okP_few b hb lb]; rfl) (ev_bind (listCheck_ev a ha la) ?_)
  cases okB a with
  | false => exact ev_neg (by decide) (ev_now rfl)
  | true => exact ev_pos rfl (listCheck_ev b hb lb)
theorem delta_ok (a b : List Nd) (ha : smallL a) (hb : smallL b) (la : a.length ≤ 1000000) (lb : b.length ≤ 1000000) (h : (okB a && okB b) = true) : Ev (fun k => list_Delta.f k a b) (deltaL a b, 0) := by
  unfold list_Delta.f
  have hh := both_ev a b ha hb la lb
  rw [h] at hh
  exact ev_bind hh (ev_pos rfl (ev_now rfl))
end Go.Proofs.YtknmfmedklfepaaGreatDoor.Q

/-
  What the printed functions of layer 16 (tally) come to, and those of layer 17 that build on them.
-/
namespace Go.Proofs.YtknmfmedklfepaaGreatDoor.Q
open Go.RowKit Go.Proofs.YtknmfmedklfepaaGreatDoor.P Go.Proofs.YtknmfmedklfepaaGreatDoorB Go.Proofs.YtknmfmedklfepaaGreatDoorW.PrintWords Go.Proofs.YtknmfmedklfepaaGreatDoorW.PrintLast Go.Proofs.YtknmfmedklfepaaGreatDoorW.PrintMore
set_option linter.unusedSimpArgs false
set_option linter.unusedVariables false
abbrev Rw := S63
theorem rdR_at (l : List Rw) (i : Nat) (h : i < l.length) : rd_T63 l (i : Int) = l[i] := by
  simp [rd_T63, List.getD_eq_getElem?_getD, h]
def smR (r : Rw) : Prop := r.f0.size ≤ 400 ∧ r.f1.length ≤ 100000 ∧ ∀ v, v ∈ r.f1 → v.size ≤ 400
def smallR (l : List Rw) : Prop := ∀ r, r ∈ l → smR r
def vB (v : ByteArray) : Ver := (splitL (L v)).getD dV
theorem vB_some {v : ByteArray} (h : verOk (L v) = true) : splitL (L v) = some (vB v) := by
  unfold verOk at h
  obtain ⟨x, hx⟩ := Option.isSome_iff_exists.1 h
  unfold vB
  rw [hx]; rfl
/-- Versions, each above the one before. -/
def chkV : Option ByteArray → List ByteArray → Bool
  | _, [] => true
  | none, v :: t => verOk (L v) && chkV (some v) t
  | some q, v :: t => verOk (L v) && (decide (verC (vB q) (vB v) < 0) && chkV (some v) t)
def rowV (r : Rw) : Bool := isPath (L r.f0) && (!r.f1.isEmpty && chkV none r.f1)
def chkR : Option Rw → List Rw → Bool
  | _, [] => true
  | none, r :: t => rowV r && chkR (some r) t
  | some q, r :: t => rowV r && (decide (cmpL (L q.f0) (L r.f0) < 0) && chkR (some r) t)
theorem tord_ev (a b : ByteArray) (ha : verOk (L a) = true) (hb : verOk (L b) = true) (sa : a.size ≤ 400) (sb : b.size ≤ 400) : Ev (fun k => tally_order.f k a b) (verC (vB a) (vB b)) := by
  unfold tally_order.f
  have h := verCmp_ev a b (by omega) (by omega)
  rw [vB_some ha, vB_some hb] at h
  exact ev_bind h (ev_now rfl)
theorem tver_loop (l : List Rw) (i : Nat) (p : ByteArray) (vs : List ByteArray) (r : Int) (hr : Ev (fun k => tally_Check.l0 k l l l.length (wrap64 ((i : Int) + 1))) r) (hS : ∀ v, v ∈ vs → v.size ≤ 400) (hl : vs.length ≤ 1000000) (d : Nat) : ∀ (j : Nat) (q : Option ByteArray), j + d = vs.length → (j = 0 → q = none) → (∀ t (h : t < vs.length), j = t + 1 → q = some vs[t] ∧ verOk (L vs[t]) = true) →
    Ev (fun k => tally_Check.l1 k l l l.length i vs vs.length j p vs) (if chkV q (vs.drop j) = true then r else 1) := by
  induction d with
  | zero =>
    intro j q hj h0 h1
    rw [List.drop_eq_nil_of_le (by omega)]
    refine ev_step (fun k => by rw [tally_Check.l1]) ?_
    refine ev_neg (by omega) ?_
    have e : chkV q [] = true := by cases q <;> rfl
    rw [if_pos e]
    exact hr
  | succ d ih =>
    intro j q hj h0 h1
    have hjl : j < vs.length := by omega
    have hs := hS vs[j] (List.getElem_mem hjl)
    rw [List.drop_eq_getElem_cons hjl]
    refine ev_step (fun k => by rw [tally_Check.l1]) ?_
    refine ev_pos (by omega) (ev_pos (by omega) (ev_pos (by omega) ?_))
    rw [rdOf_at _ vs j hjl, w_succ j (by omega)]
    refine ev_bind (verMay_ev vs[j] (by omega)) ?_
    cases hok : verOk (L vs[j]) with
    | false =>
      refine ev_neg (by decide) (ev_now ?_)
      cases q <;> simp [chkV, hok]
    | true =>
      refine ev_pos rfl ?_
      have hn := ih (j + 1) (some vs[j]) (by omega) (by omega) (fun t h e => by
        obtain rfl : t = j := by omega
        exact ⟨rfl, hok⟩)
      cases j with
      | zero =>
        obtain rfl := h0 rfl
        refine ev_neg (by omega) ?_
        rw [chkV, hok, Bool.true_and]
        exact hn
      | succ t =>
        obtain ⟨rfl, ht⟩ := h1 t (by omega) rfl
        have hw : wrap64 (((t + 1 : Nat) : Int) - 1) = (t : Int) := by rw [w_small (by omega) (by omega)]; omega
        refine ev_pos (by omega) ?_
        rw [hw]
        refine ev_pos (by omega) (ev_pos (by omega) ?_)
        rw [rdOf_at _ vs t (by omega)]
        refine ev_bind (tord_ev vs[t] vs[t + 1] ht hok (hS _ (List.getElem_mem _)) hs) (ev_ite (fun h => ev_now ?_) (fun h => ?_))
        · rw [chkV, hok, decide_eq_false (by omega)]; rfl
        · rw [chkV, hok, Bool.true_and, decide_eq_true (by omega), Bool.true_and]; exact hn
theorem tchk_loop (l : List Rw) (hS : smallR l) (hl : l.length ≤ 1000000) (d : Nat) : ∀ (i : Nat) (q : Option Rw), i + d = l.length → (i = 0 → q = none) → (∀ j (h : j < l.length), i = j + 1 → q = some l[j]) → Ev (fun k => tally_Check.l0 k l l l.length i) (if chkR q (l.drop i) = true then 0 else 1) := by
  induction d with
  | zero =>
    intro i q hi h0 h1
    rw [List.drop_eq_nil_of_le (by omega)]
    refine ev_step (fun k => by rw [tally_Check.l0]) ?_
    refine ev_neg (by omega) (ev_now ?_)
    cases q <;> rfl
  | succ d ih =>
    intro i q hi h0 h1
    have hil : i < l.length := by omega
    have hs := hS l[i] (List.getElem_mem hil)
    have bad : ∀ (v : Bool), v = true → Ev (fun k => tally_Check.j1 k l l l.length i v l[i].f0 l[i].f1) 1 := fun v hv => ev_step (fun k => by rw [tally_Check.j1]) (ev_pos hv (ev_now rfl))
    have hn := ih (i + 1) (some l[i]) (by omega) (by omega) (fun j h e => by
      obtain rfl : j = i := by omega
      rfl)
    have good : ∀ (v : Bool), v = false → Ev (fun k => tally_Check.j1 k l l l.length i v l[i].f0 l[i].f1) (if chkV none l[i].f1 = true then (if chkR (some l[i]) (l.drop (i + 1)) = true then 0 else 1) else 1) := fun v hv => by
      refine ev_step (fun k => by rw [tally_Check.j1]) (ev_neg (by rw [hv]; decide) ?_)
      have h := tver_loop l i l[i].f0 l[i].f1 _ (by rw [w_succ i (by omega)]; exact hn) hs.2.2 (by have := hs.2.1; omega) l[i].f1.length 0 none (by omega) (fun _ => rfl) (fun j h e => by omega)
      rw [List.drop_zero] at h
      exact h
    rw [List.drop_eq_getElem_cons hil]
    refine ev_step (fun k => by rw [tally_Check.l0]) ?_
    refine ev_pos (by omega) (ev_pos (by omega) (ev_pos (by omega) ?_))
    rw [rdR_at l i hil]
    refine ev_bind (May_ev l[i].f0 (by have := hs.1; omega)) ?_
    cases hp : isPath (L l[i].f0) with
    | false =>
      refine ev_neg (by decide) ?_
      have e : chkR q (l[i] :: l.drop (i + 1)) = false := by cases q <;> simp [chkR, rowV, hp]
      rw [e]
      exact bad true rfl
    | true =>
      refine ev_pos rfl ?_
      cases hv : l[i].f1.isEmpty with
      | true =>
        have h2 : l[i].f1 = [] := List.isEmpty_iff.1 hv
        refine ev_pos (by rw [h2]; rfl) ?_
        have e : chkR q (l[i] :: l.drop (i + 1)) = false := by cases q <;> simp [chkR, rowV, hv]
        rw [e]
        exact bad true rfl
      | false =>
        refine ev_neg (fun e => by
          have : l[i].f1 = [] := List.length_eq_zero_iff.1 (by omega)
          rw [this] at hv; exact absurd hv (by decide)) ?_
        have hrow : rowV l[i] = chkV none l[i].f1 := by unfold rowV; rw [hp, hv]; rfl
        cases i with
        | zero =>
          obtain rfl := h0 rfl
          refine ev_neg (by omega) ?_
          have h := good false rfl
          rw [chkR, hrow]
          cases hc : chkV none l[0].f1 with
          | false => rw [hc] at h; exact h
          | true => rw [hc] at h; rw [Bool.true_and]; exact h
        | succ j =>
          obtain rfl := h1 j (by omega) rfl
          have hw : wrap64 (((j + 1 : Nat) : Int) - 1) = (j : Int) := by rw [w_small (by omega) (by omega)]; omega
          refine ev_pos (by omega) ?_
          rw [hw]
          refine ev_pos (by omega) (ev_pos (by omega) ?_)
          rw [rdR_at l j (by omega), Cmp_eq]
          refine ev_some ?_
          rw [chkR, hrow]
          by_cases hc : cmpL (L l[j].f0) (L l[j + 1].f0) < 0
          · have h := good (decide (cmpL (L l[j].f0) (L l[j + 1].f0) ≥ 0)) (decide_eq_false (by omega))
            rw [decide_eq_true hc, Bool.true_and]
            cases hd : chkV none l[j + 1].f1 with
            | false => rw [hd] at h; exact h
            | true => rw [hd] at h; rw [Bool.true_and]; exact h
          · rw [decide_eq_false hc, Bool.false_and, Bool.and_false]
            exact bad _ (decide_eq_true (by omega))
theorem tallyCheck_ev (l : List Rw) (hS : smallR l) (hl : l.length ≤ 1000000) : Ev (fun k => tally_Check.f k l) (if chkR none l = true then 0 else 1) := by
  unfold tally_Check.f
  have h := tchk_loop l hS hl l.length 0 none (by omega) (fun _ => rfl) (fun j h e => by omega)
  rw [List.drop_zero] at h
  exact h
def rth (a b : Rw) : Prop := cmpL (L a.f0) (L b.f0) < 0
theorem rth_trans {a b c : Rw} (h : rth a b) (h' : rth b c) : rth a c := tot_cmpL.strictL h (by unfold rth at h'; omega)
theorem chkR_some : ∀ (l : List Rw) (q : Rw), chkR (some q) l = true ↔ (∀ r, r ∈ l → rowV r = true) ∧ (q :: l).Pairwise rth
  | [], q => by simp [chkR]
  | n :: t, q => by
    rw [chkR, Bool.and_eq_true, Bool.and_eq_true, decide_eq_true_eq, chkR_some t n, List.pairwise_cons (a := q)]
    constructor
    · rintro ⟨h1, h2, h3, h4⟩
      refine ⟨fun x hx => ?_, fun x hx => ?_, h4⟩
      · rcases List.mem_cons.1 hx with rfl | hx
        · exact h1
        · exact h3 x hx
      · rcases List.mem_cons.1 hx with rfl | hx
        · exact h2
        · exact rth_trans h2 ((List.pairwise_cons.1 h4).1 x hx)
    · rintro ⟨h1, h2, h3⟩
      exact ⟨h1 n (by simp), h2 n (by simp), fun x hx => h1 x (List.mem_cons_of_mem _ hx), h3⟩
theorem chkR_iff (l : List Rw) : chkR none l = true ↔ (∀ r, r ∈ l → rowV r = true) ∧ l.Pairwise rth := by
  cases l with
  | nil => simp [chkR]
  | cons n t =>
    rw [chkR, Bool.and_eq_true, chkR_some]
    constructor
    · rintro ⟨h1, h2, h3⟩
      refine ⟨fun x hx => ?_, h3⟩
      rcases List.mem_cons.1 hx with rfl | hx
      · exact h1
      · exact h2 x hx
    · rintro ⟨h1, h2⟩
      exact ⟨h1 n (by simp), fun x hx => h1 x (List.mem_cons_of_mem _ hx), h2⟩
theorem cmpP_L (p q : ByteArray) : cmpP p q = cmpL (L p) (L q) := cmpP_if p q
theorem bs_at (l : List Rw) (p : ByteArray) (t : Nat) (hlt : ∀ i (h : i < l.length), i < t → cmpL (L l[i].f0) (L p) < 0) (hge : ∀ i (h : i < l.length), t ≤ i → ¬ cmpL (L l[i].f0) (L p) < 0) : ∀ n i j, j ≤ i + n → i ≤ t → t ≤ j → j ≤ l.length → bsGo l p n i j = t
  | 0, i, j, h1, h2, h3, h4 => by rw [bsGo]; omega
  | n + 1, i, j, h1, h2, h3, h4 => by
    rw [bsGo]
    by_cases hij : i < j
    · rw [if_pos hij, rdR_at l ((i + j) / 2) (by omega), cmpP_L]
      by_cases hc : cmpL (L l[(i + j) / 2].f0) (L p) < 0
      · rw [if_pos hc]
        have : (i + j) / 2 < t := Nat.lt_of_not_le fun h => hge _ (by omega) h hc
        exact bs_at l p t hlt hge n _ _ (by omega) (by omega) h3 h4
      · rw [if_neg hc]
        have : t ≤ (i + j) / 2 := Nat.le_of_not_lt fun h => hc (hlt _ (by omega) h)
        exact bs_at l p t hlt hge n _ _ (by omega) h2 (by omega) (by omega)
    · rw [if_neg hij]; omega
theorem find_at (l : List Rw) (hp : l.Pairwise rth) (t : Nat) (ht : t < l.length) (hl : l.length ≤ 1000000) : tally_find.f l l[t].f0 = some ((t : Int), true) := by
  have hpw := List.pairwise_iff_getElem.1 hp
  have e : bsR l l[t].f0 = t := bs_at l l[t].f0 t (fun i h hi => hpw i t h ht hi) (fun i h hi hc => by
    rcases Nat.lt_or_eq_of_le hi with h2 | h2
    · have := hpw t i ht h h2
      unfold rth at this
      rw [cmpL_flip] at this
      omega
    · subst h2
      rw [cmpL_self] at hc
      omega) l.length 0 l.length (by omega) (by omega) (by omega) (by omega)
  unfold tally_find.f hasR
  rw [if_pos (by omega), e, rdR_at l t ht, cmpP_L, cmpL_self, decide_eq_true ht]
  rfl
/-- A row's node: its last version. -/
def bldN (r : Rw) : Nd := ⟨r.f0, rdOf ByteArray.empty r.f1 ((r.f1.length : Int) - 1)⟩
theorem best_ok (l : List Rw) (hS : smallR l) (hl : l.length ≤ 1000000) (h : chkR none l = true) (t : Nat) (ht : t < l.length) : Ev (fun k => tally_Best.f k l l[t].f0) ((bldN l[t]).f1, 0) := by
  obtain ⟨h1, h2⟩ := (chkR_iff l).1 h
  have hs := hS l[t] (List.getElem_mem ht)
  have hr := h1 l[t] (List.getElem_mem ht)
  unfold rowV at hr
  simp only [Bool.and_eq_true, Bool.not_eq_true', List.isEmpty_eq_false_iff] at hr
  have hne : 0 < l[t].f1.length := List.length_pos_iff.2 hr.2.1
  have hm := May_ev l[t].f0 (by have := hs.1; omega)
  rw [hr.1] at hm
  have hc := tallyCheck_ev l hS hl
  rw [h] at hc
  unfold tally_Best.f
  refine ev_bind hc (ev_pos rfl (ev_bind hm ?_))
  refine ev_step (fun k => by rw [tally_Best.j0]) (ev_neg (by decide) ?_)
  rw [find_at l h2 t ht hl]
  have hw : wrap64 ((l[t].f1.length : Int) - 1) = (l[t].f1.length : Int) - 1 := w_small (by omega) (by have := hs.2.1; omega)
  refine ev_some (ev_pos rfl (ev_pos (by omega) (ev_pos (by omega) ?_)))
  rw [rdR_at l t ht, hw]
  exact ev_pos (by omega) (ev_pos (by omega) (ev_now rfl))
theorem bld_loop (l : List Rw) (hS : smallR l) (hl : l.length ≤ 1000000) (h : chkR none l = true) (d : Nat) : ∀ (i : Nat) (p : List Nd), i + d = l.length → p.length = i → Ev (fun k => list_Build.l0 k l p l l.length i) (p ++ (l.drop i).map bldN, 0) := by
  induction d with
  | zero =>
    intro i p hi hp
    rw [List.drop_eq_nil_of_le (by omega), List.map_nil, List.append_nil]
    refine ev_step (fun k => by rw [list_Build.l0]) ?_
    exact ev_neg (by omega) (ev_now rfl)
  | succ d ih =>
    intro i p hi hp
    have hil : i < l.length := by omega
    rw [List.drop_eq_getElem_cons hil, List.map_cons]
    refine ev_step (fun k => by rw [list_Build.l0]) ?_
    refine ev_pos (by omega) (ev_pos (by omega) (ev_pos (by omega) ?_))
    rw [rdR_at l i hil, w_succ i (by omega)]
    refine ev_bind (best_ok l hS hl h i hil) (ev_pos rfl (ev_pos (by omega) ?_))
    have hh := ih (i + 1) (p ++ [bldN l[i]]) (by omega) (by simp [hp])
    rw [List.append_assoc] at hh
    exact hh
theorem build_ok (l : List Rw) (hS : smallR l) (hl : l.length ≤ 1000000) (h : chkR none l = true) : Ev (fun k => list_Build.f k l) (l.map bldN, 0) := by
  unfold list_Build.f
  exact bld_loop l hS hl h l.length 0 [] (by omega) rfl
/-! ### Pick -/
def pickR (p : ByteArray) : List Nd → ByteArray × Int
  | [] => (⟨#[]⟩, 2)
  | n :: t => if n.f0 = p then (n.f1, 0) else pickR p t
theorem pickR_cases (p : ByteArray) : ∀ l : List Nd, (pickR p l = (⟨#[]⟩, 2) ∧ ∀ n, n ∈ l → n.f0 ≠ p) ∨ ∃ n, n ∈ l ∧ n.f0 = p ∧ pickR p l = (n.f1, 0)
  | [] => .inl ⟨rfl, fun n h => by simp at h⟩
  | m :: t => by
    by_cases e : m.f0 = p
    · exact .inr ⟨m, by simp, e, by rw [pickR, if_pos e]⟩
    · rw [pickR, if_neg e]
      rcases pickR_cases p t with ⟨h1, h2⟩ | ⟨n, hn, h1, h2⟩
      · refine .inl ⟨h1, fun n hn => ?_⟩
        rcases List.mem_cons.1 hn with rfl | hn
        · exact e
        · exact h2 n hn
      · exact .inr ⟨n, List.mem_cons_of_mem _ hn, h1, h2⟩
theorem pickR_fst (p : ByteArray) : ∀ l : List Nd, (pickR p l).1 = pickL p l
  | [] => rfl
  | m :: t => by
    rw [pickR, pickL]
    split
    · rfl
    · exact pickR_fst p t
theorem pickR_mem {n : Nd} {l : List Nd} (hp : l.Pairwise pth) (hn : n ∈ l) : pickR n.f0 l = (n.f1, 0) := by
  rcases pickR_cases n.f0 l with ⟨-, h⟩ | ⟨m, hm, h1, h2⟩
  · exact absurd rfl (h n hn)
  · have h3 := pickL_mem hp hn
    rw [← pickR_fst, h2] at h3
    rw [h2]
    exact congrArg (·, 0) h3
theorem pick_loop (l : List Nd) (p : ByteArray) (hl : l.length ≤ 1000000) (d : Nat) : ∀ i : Nat, i + d = l.length → Ev (fun k => list_Pick.l0 k p l l.length i) (pickR p (l.drop i)) := by
  induction d with
  | zero =>
    intro i hi
    rw [List.drop_eq_nil_of_le (by omega)]
    refine ev_step (fun k => by rw [list_Pick.l0]) ?_
    exact ev_neg (by omega) (ev_now rfl)
  | succ d ih =>
    intro i hi
    have hil : i < l.length := by omega
    rw [List.drop_eq_getElem_cons hil, pickR]
    refine ev_step (fun k => by rw [list_Pick.l0]) ?_
    refine ev_pos (by omega) (ev_pos (by omega) (ev_pos (by omega) ?_))
    rw [rdN_at l i hil, w_succ i (by omega)]
    refine ev_ite (fun h => ?_) (fun h => ?_)
    · rw [if_pos ((path_eq _ _).1 h)]; exact ev_now rfl
    · rw [if_neg (fun e => h ((path_eq _ _).2 e))]; exact ih (i + 1) (by omega)
theorem pick_ev (l : List Nd) (p : ByteArray) (hS : smallL l) (hl : l.length ≤ 1000000) (hp : p.size ≤ 1000000) : Ev (fun k => list_Pick.f k l p) (if (okB l && isPath (L p)) = true then pickR p l else (⟨#[]⟩, 1)) := by
  have bad : Ev (fun k => list_Pick.j0 k l p true) (⟨#[]⟩, 1) := ev_step (fun k => by rw [list_Pick.j0]) (ev_pos rfl (ev_now rfl))
  unfold list_Pick.f
  refine ev_bind (listCheck_ev l hS hl) ?_
  cases okB l with
  | false => exact ev_neg (by decide) bad
  | true =>
    refine ev_pos rfl (ev_bind (May_ev p (by omega)) ?_)
    cases isPath (L p) with
    | false => exact bad
    | true =>
      refine ev_step (fun k => by rw [list_Pick.j0]) (ev_neg (by decide) ?_)
      exact pick_loop l p hl l.length 0 (by omega)
/-! ### the chapter's examples -/
def exV : ByteArray := ⟨#[118, 49, 46, 48, 46, 48]⟩
def exW : ByteArray := ⟨#[118, 49, 46, 49, 46, 48]⟩
def exR : Rw := ⟨⟨#[97]⟩, [exV, exW]⟩
def exA : Nd := ⟨⟨#[97]⟩, exV⟩
def exB : Nd := ⟨⟨#[98]⟩, exV⟩
theorem exR_ok : chkR none [exR] = true := by decide
theorem exR_sm : smallR [exR] := by
  intro r hr
  obtain rfl := List.mem_singleton.1 hr
  unfold smR exR exV exW
  decide
theorem exA_ok : okB [exA] = true := by decide
theorem exB_ok : okB [exB] = true := by decide
theorem ex_sm {n : Nd} (h : n.f0.size ≤ 400 ∧ n.f1.size ≤ 400) : smallL [n] := fun x hx => by
  obtain rfl := List.mem_singleton.1 hx
  exact h
theorem ex_delta : (deltaL [exA] [exB]).length = 2 := by
  have h1 : cmpP exA.f0 exB.f0 = -1 := by rw [cmpP_L]; decide
  have hne : ¬ exA.f0 = exB.f0 := by decide
  have hne' : ¬ exB.f0 = exA.f0 := by decide
  have hp : pathsL ([exA] ++ [exB]) = [exA.f0, exB.f0] := by
    simp only [pathsL, List.cons_append, List.nil_append, List.foldl_cons, List.foldl_nil, insP]
    rw [h1, if_pos (by decide)]
  have c1 : chgL [exA] [exB] exA.f0 = some ⟨exA.f0, exV, ⟨#[]⟩⟩ := by
    unfold chgL lastL
    simp only [List.foldl_cons, List.foldl_nil, if_neg hne', if_pos]
    rw [if_neg (by rw [path_eq]; decide)]
    rfl
  have c2 : chgL [exA] [exB] exB.f0 = some ⟨exB.f0, ⟨#[]⟩, exV⟩ := by
    unfold chgL lastL
    simp only [List.foldl_cons, List.foldl_nil, if_neg hne, if_pos]
    rw [if_neg (by rw [path_eq]; decide)]
    rfl
  unfold deltaL
  rw [hp, List.filterMap_cons, c1, List.filterMap_cons, c2]
  rfl
theorem awake17_ev : Ev (fun k => graftwoodlaw17_awake.f k) true := by
  unfold graftwoodlaw17_awake.f
  have sa : smallL [exA] := ex_sm (by unfold exA exV; decide)
  have sb : smallL [exB] := ex_sm (by unfold exB exV; decide)
  have hb : smallL ([exR].map bldN) := ex_sm (n := bldN exR) (by decide)
  have hk : okB ([exR].map bldN) = true := by decide
  refine ev_bind (build_ok [exR] exR_sm (by simp) exR_ok) ?_
  refine ev_bind (delta_ok [exA] [exB] sa sb (by simp) (by simp) (by rw [exA_ok, exB_ok]; rfl)) ?_
  refine ev_bind (pick_ev ([exR].map bldN) ⟨#[98]⟩ hb (by simp) (by decide)) ?_
  refine ev_pos rfl (ev_pos (by decide) (ev_pos ?_ (ev_pos rfl (ev_pos ?_ (ev_pos rfl (ev_now ?_))))))
  · rw [toList_L]; decide
  · rw [ex_delta]; rfl
  · rw [hk]; decide
end Go.Proofs.YtknmfmedklfepaaGreatDoor.Q

/-
  What Above comes to, and nodes held against themselves.
-/
namespace Go.Proofs.YtknmfmedklfepaaGreatDoor.Q
open Go.RowKit Go.Proofs.YtknmfmedklfepaaGreatDoor.P Go.Proofs.YtknmfmedklfepaaGreatDoorB Go.Proofs.YtknmfmedklfepaaGreatDoorW.PrintWords Go.Proofs.YtknmfmedklfepaaGreatDoorW.PrintLast Go.Proofs.YtknmfmedklfepaaGreatDoorW.PrintMore
set_option linter.unusedSimpArgs false
set_option linter.unusedVariables false
def abvP (x y : ByteArray) : Bool := decide (L y ≠ []) && !decide (verC (vB y) (vB x) < 0)
def abvL (a b : List Nd) : Bool := a.all fun n => abvP n.f1 (pickL n.f0 b)
theorem abvOne_ev (x y : ByteArray) (hx : L x = [] ∨ verOk (L x) = true) (hy : L y = [] ∨ verOk (L y) = true) (sx : x.size ≤ 400) (sy : y.size ≤ 400) : Ev (fun k => abvOne k x y) (decide (L x = []) || abvP x y) := by
  unfold abvOne
  refine ev_ite (fun h => ?_) (fun h => ?_)
  · rw [toList_L] at h
    rw [decide_eq_true h]; exact ev_now rfl
  · rw [toList_L] at h
    rw [decide_eq_false h, Bool.false_or]
    have hx := hx.resolve_left h
    refine ev_bind (verCmp_ev y x (by omega) (by omega)) (ev_now ?_)
    rw [vB_some hx]
    unfold abvP
    rcases hy with hy | hy
    · rw [hy]; rfl
    · rw [vB_some hy, decide_eq_true (ver_ne hy)]; rfl
theorem pick_ok {l : List Nd} (h : okL l) (hS : smallL l) (p : ByteArray) : (L (pickL p l) = [] ∨ verOk (L (pickL p l)) = true) ∧ (pickL p l).size ≤ 400 := by
  rcases pickL_cases p l with ⟨h1, -⟩ | ⟨n, hn, -, h2⟩
  · rw [h1]; exact ⟨.inl rfl, by decide⟩
  · rw [h2]
    have := h n hn
    unfold nodeOk at this
    rw [Bool.and_eq_true] at this
    exact ⟨.inr this.2, (hS n hn).2⟩
theorem abvAll_ev (a b : List Nd) (ha : okB a = true) (hb : okB b = true) (sa : smallL a) (sb : smallL b) : ∀ ps : List ByteArray, Ev (fun k => abvAll k a b ps) (ps.all fun p => decide (L (pickL p a) = []) || abvP (pickL p a) (pickL p b))
  | [] => ev_now rfl
  | p :: ps => by
    obtain ⟨oa, pa⟩ := (okB_iff a).1 ha
    obtain ⟨ob, pb⟩ := (okB_iff b).1 hb
    simp only [abvAll]
    rw [lastL_pick pa, lastL_pick pb]
    exact ev_bind (abvOne_ev _ _ (pick_ok oa sa p).1 (pick_ok ob sb p).1 (pick_ok oa sa p).2 (pick_ok ob sb p).2) (ev_bind (abvAll_ev a b ha hb sa sb ps) (ev_now rfl))
theorem above_ok (a b : List Nd) (ha : okB a = true) (hb : okB b = true) (sa : smallL a) (sb : smallL b) (la : a.length ≤ 1000000) (lb : b.length ≤ 1000000) : Ev (fun k => list_Above.f k a b) (abvL a b, 0) := by
  unfold list_Above.f
  have hh := both_ev a b sa sb la lb
  rw [ha, hb] at hh
  refine ev_bind hh (ev_pos rfl (ev_bind (abvAll_ev a b ha hb sa sb _) (ev_now ?_)))
  obtain ⟨oa, pa⟩ := (okB_iff a).1 ha
  congr 1
  unfold abvL
  rw [Bool.eq_iff_iff, List.all_eq_true, List.all_eq_true]
  constructor
  · intro h n hn
    have h1 := h n.f0 ((pathsL_mem _ _).2 ⟨n, List.mem_append_left _ hn, rfl⟩)
    rw [pickL_mem pa hn] at h1
    have h2 := oa n hn
    unfold nodeOk at h2
    rw [Bool.and_eq_true] at h2
    rw [decide_eq_false (ver_ne h2.2), Bool.false_or] at h1
    exact h1
  · intro h p hp
    rcases pickL_cases p a with ⟨h1, -⟩ | ⟨n, hn, rfl, h2⟩
    · rw [h1]; rfl
    · rw [h2, h n hn, Bool.or_true]
end Go.Proofs.YtknmfmedklfepaaGreatDoor.Q

/-
  The pure statement of ListMore.
-/
namespace Go.Proofs.YtknmfmedklfepaaGreatDoor.Pure
open Go.RowKit Go.Proofs.YtknmfmedklfepaaGreatDoor.P Go.Proofs.YtknmfmedklfepaaGreatDoor.Q Go.Proofs.YtknmfmedklfepaaGreatDoorB Go.Proofs.YtknmfmedklfepaaGreatDoorW.PrintWords Go.Proofs.YtknmfmedklfepaaGreatDoorW.PrintLast Go.Proofs.YtknmfmedklfepaaGreatDoorW.PrintMore
set_option linter.unusedSimpArgs false
set_option linter.unusedVariables false
/-! ### rows, few -/
def fewRow (r : Rw) : Rw := ⟨few r.f0, (r.f1.take 12).map few⟩
def fewR (l : List Rw) : List Rw := (l.take 12).map fewRow
theorem fewR_len (l : List Rw) : (fewR l).length ≤ 12 := by unfold fewR; rw [List.length_map, List.length_take]; omega
theorem fewRow_len (r : Rw) : (fewRow r).f1.length ≤ 12 := by unfold fewRow; simp only [List.length_map, List.length_take]; omega
theorem fewR_rows {l : List Rw} {r : Rw} (h : r ∈ fewR l) : r.f0.size ≤ 400 ∧ r.f1.length ≤ 12 ∧ ∀ v, v ∈ r.f1 → v.size ≤ 400 := by
  obtain ⟨x, -, rfl⟩ := List.mem_map.1 h
  refine ⟨few_size _, fewRow_len x, fun v hv => ?_⟩
  obtain ⟨y, -, rfl⟩ := List.mem_map.1 hv
  exact few_size _
theorem few16_in (l : List Rw) (i : Nat) (hil : i < l.length) (p : List Rw) (hp : p.length ≤ 1000000) (hi : i ≤ 1000000) (nm : ByteArray) (r : List Rw) (hr : Ev (fun k => graftwoodlaw16_Few.l0 k l (p ++ [⟨nm, (l[i].f1.take 12).map few⟩]) ((i + 1 : Nat) : Int)) r) (d : Nat) : ∀ (j : Nat) (au : List ByteArray), j + d = min l[i].f1.length 12 → au = ((l[i].f1.take 12).take j).map few → Ev (fun k => graftwoodlaw16_Few.l1 k l p i j nm au) r := by
  induction d with
  | zero =>
    intro j au hj ha
    have e : au = (l[i].f1.take 12).map few := by rw [ha, List.take_of_length_le (by rw [List.length_take]; omega)]
    rw [← e] at hr
    refine ev_step (fun k => by rw [graftwoodlaw16_Few.l1]) ?_
    refine ev_pos (by omega) (ev_pos (by omega) ?_)
    rw [rdR_at l i hil, w_succ i (by omega)]
    refine ev_ite (fun h => ev_neg (by omega) (ev_pos (by omega) hr)) (fun h => ev_pos (by omega) hr)
  | succ d ih =>
    intro j au hj ha
    have hjl : j < l[i].f1.length := by omega
    refine ev_step (fun k => by rw [graftwoodlaw16_Few.l1]) ?_
    refine ev_pos (by omega) (ev_pos (by omega) ?_)
    rw [rdR_at l i hil]
    refine ev_pos (by omega) (ev_pos (by omega) (ev_pos (by omega) ?_))
    rw [rdOf_at _ _ j hjl, Few_eq, w_succ j (by omega)]
    have hl : au.length ≤ 12 := by rw [ha, List.length_map, List.length_take, List.length_take]; omega
    refine ev_some (ev_pos (by omega) (ih (j + 1) _ (by omega) ?_))
    rw [ha, List.take_succ_eq_append_getElem (l := l[i].f1.take 12) (i := j) (by rw [List.length_take]; omega), List.map_append, List.getElem_take]
    rfl
theorem few16_loop (l : List Rw) (d : Nat) : ∀ (i : Nat) (p : List Rw), i + d = min l.length 12 → p.length = i → Ev (fun k => graftwoodlaw16_Few.l0 k l p i) (p ++ ((l.take 12).drop i).map fewRow) := by
  induction d with
  | zero =>
    intro i p hi hp
    have hd : (l.take 12).drop i = [] := List.drop_eq_nil_of_le (by rw [List.length_take]; omega)
    rw [hd, List.map_nil, List.append_nil]
    have fin : ∀ v : Bool, v = false → Ev (fun k => graftwoodlaw16_Few.j1 k l p i v) p := fun v hv => ev_step (fun k => by rw [graftwoodlaw16_Few.j1]) (ev_neg (by rw [hv]; decide) (ev_now rfl))
    refine ev_step (fun k => by rw [graftwoodlaw16_Few.l0]) ?_
    exact ev_ite (fun h => fin _ (decide_eq_false (by omega))) (fun _ => fin _ rfl)
  | succ d ih =>
    intro i p hi hp
    have hil : i < l.length := by omega
    refine ev_step (fun k => by rw [graftwoodlaw16_Few.l0]) ?_
    refine ev_pos (by omega) (ev_step (fun k => by rw [graftwoodlaw16_Few.j1]) (ev_pos (decide_eq_true (by omega)) (ev_pos (by omega) (ev_pos (by omega) ?_))))
    rw [rdR_at l i hil, Few_eq]
    refine ev_some (few16_in l i hil p (by omega) (by omega) (few l[i].f0) _ ?_ (min l[i].f1.length 12) 0 [] (by omega) (by simp))
    have h := ih (i + 1) (p ++ [fewRow l[i]]) (by omega) (by simp [hp])
    have hd : (l.take 12).drop i = l[i] :: (l.take 12).drop (i + 1) := by
      rw [List.drop_eq_getElem_cons (by rw [List.length_take]; omega), List.getElem_take]
    rw [hd, List.map_cons]
    rw [List.append_assoc] at h
    exact h
theorem few16_ev (l : List Rw) : Ev (fun k => graftwoodlaw16_Few.f k l) (fewR l) := by
  unfold graftwoodlaw16_Few.f
  exact few16_loop l (min l.length 12) 0 [] (by omega) rfl

def smR12 (l : List Rw) : Prop := l.length ≤ 12 ∧ ∀ r, r ∈ l → r.f0.size ≤ 400 ∧ r.f1.length ≤ 12 ∧ ∀ v, v ∈ r.f1 → v.size ≤ 400
theorem smR_of {l : List Rw} (h : smR12 l) : smallR l := fun r hr => ⟨(h.2 r hr).1, by have := (h.2 r hr).2.1; omega, (h.2 r hr).2.2⟩
def verLt (v w : ByteArray) : Prop := verC (vB v) (vB w) < 0
theorem verLt_trans {a b c : ByteArray} (h : verLt a b) (h' : verLt b c) : verLt a c := tot_ver.strictL h (by unfold verLt at h'; omega)
theorem chkV_some : ∀ (l : List ByteArray) (q : ByteArray), chkV (some q) l = true ↔ (∀ v, v ∈ l → verOk (L v) = true) ∧ (q :: l).Pairwise verLt
  | [], q => by simp [chkV]
  | n :: t, q => by
    rw [chkV, Bool.and_eq_true, Bool.and_eq_true, decide_eq_true_eq, chkV_some t n, List.pairwise_cons (a := q)]
    constructor
    · rintro ⟨h1, h2, h3, h4⟩
      refine ⟨fun x hx => ?_, fun x hx => ?_, h4⟩
      · rcases List.mem_cons.1 hx with rfl | hx
        · exact h1
        · exact h3 x hx
      · rcases List.mem_cons.1 hx with rfl | hx
        · exact h2
        · exact verLt_trans h2 ((List.pairwise_cons.1 h4).1 x hx)
    · rintro ⟨h1, h2, h3⟩
      exact ⟨h1 n (by simp), h2 n (by simp), fun x hx => h1 x (List.mem_cons_of_mem _ hx), h3⟩
theorem chkV_iff (l : List ByteArray) : chkV none l = true ↔ (∀ v, v ∈ l → verOk (L v) = true) ∧ l.Pairwise verLt := by
  cases l with
  | nil => simp [chkV]
  | cons n t =>
    rw [chkV, Bool.and_eq_true, chkV_some]
    constructor
    · rintro ⟨h1, h2, h3⟩
      refine ⟨fun x hx => ?_, h3⟩
      rcases List.mem_cons.1 hx with rfl | hx
      · exact h1
      · exact h2 x hx
    · rintro ⟨h1, h2⟩
      exact ⟨h1 n (by simp), fun x hx => h1 x (List.mem_cons_of_mem _ hx), h2⟩
abbrev Ch := S75
theorem ltP_irr (a : ByteArray) : ¬ ltP a a := List.lt_irrefl _
theorem chgL_some {a b : List Nd} {p : ByteArray} {x : Ch} (h : chgL a b p = some x) : x.f0 = p ∧ x.f1 = lastL p a ∧ x.f2 = lastL p b ∧ lastL p a ≠ lastL p b := by
  unfold chgL at h
  split at h
  · cases h
  · rename_i e
    obtain rfl := Option.some.inj h
    exact ⟨rfl, rfl, rfl, fun h => e ((path_eq _ _).2 h)⟩
theorem delta_mem {a b : List Nd} {x : Ch} (h : x ∈ deltaL a b) : x.f0 ∈ pathsL (a ++ b) ∧ x.f1 = lastL x.f0 a ∧ x.f2 = lastL x.f0 b ∧ x.f1 ≠ x.f2 := by
  obtain ⟨p, hp, h⟩ := List.mem_filterMap.1 h
  obtain ⟨rfl, h1, h2, h3⟩ := chgL_some h
  exact ⟨hp, h1, h2, by rw [h1, h2]; exact h3⟩
theorem delta_sorted (a b : List Nd) : (deltaL a b).Pairwise fun x y => ltP x.f0 y.f0 := by
  unfold deltaL
  refine List.pairwise_filterMap.2 ((pathsL_sorted (a ++ b)).imp fun {p q} h x hx y hy => ?_)
  rw [(chgL_some hx).1, (chgL_some hy).1]
  exact h

/-! ### where a path stands, and a version -/
theorem cut_at {α : Type} (P : α → Bool) : ∀ l : List α, l.Pairwise (fun a b => P b = true → P a = true) → ∃ t, t ≤ l.length ∧ (∀ (i : Nat) (h : i < l.length), i < t → P l[i] = true) ∧ ∀ (i : Nat) (h : i < l.length), t ≤ i → P l[i] = false
  | [], _ => ⟨0, Nat.le_refl _, fun i h => absurd h (by simp), fun i h => absurd h (by simp)⟩
  | x :: l, hp => by
    obtain ⟨h1, h2⟩ := List.pairwise_cons.1 hp
    cases hx : P x with
    | false =>
      refine ⟨0, Nat.zero_le _, fun i _ h => absurd h (Nat.not_lt_zero _), fun i h _ => ?_⟩
      cases i with
      | zero => exact hx
      | succ i =>
        cases hi : P (x :: l)[i + 1] with
        | false => rfl
        | true =>
          have := h1 _ (List.getElem_mem (by simpa using h)) hi
          rw [hx] at this
          cases this
    | true =>
      obtain ⟨t, ht, h3, h4⟩ := cut_at P l h2
      refine ⟨t + 1, by simpa using ht, fun i h hi => ?_, fun i h hi => ?_⟩
      · cases i with
        | zero => exact hx
        | succ i => exact h3 i (by simpa using h) (by omega)
      · cases i with
        | zero => omega
        | succ i => exact h4 i (by simpa using h) (by omega)
theorem bsI_at (cs : List Int) (t : Nat) (hlt : ∀ (i : Nat) (h : i < cs.length), i < t → cs[i] < 0) (hge : ∀ (i : Nat) (h : i < cs.length), t ≤ i → ¬ cs[i] < 0) : ∀ n i j, j ≤ i + n → i ≤ t → t ≤ j → j ≤ cs.length → bsGoI cs n i j = t
  | 0, i, j, h1, h2, h3, h4 => by rw [bsGoI]; omega
  | n + 1, i, j, h1, h2, h3, h4 => by
    rw [bsGoI]
    by_cases hij : i < j
    · have hg : cs.getD ((i + j) / 2) 0 = cs[(i + j) / 2]'(by omega) := by rw [List.getD_eq_getElem?_getD, List.getElem?_eq_getElem (by omega)]; rfl
      rw [if_pos hij, hg]
      by_cases hc : cs[(i + j) / 2]'(by omega) < 0
      · rw [if_pos hc]
        have : (i + j) / 2 < t := Nat.lt_of_not_le fun h => hge _ (by omega) h hc
        exact bsI_at cs t hlt hge n _ _ (by omega) (by omega) h3 h4
      · rw [if_neg hc]
        have : t ≤ (i + j) / 2 := Nat.le_of_not_lt fun h => hc (hlt _ (by omega) h)
        exact bsI_at cs t hlt hge n _ _ (by omega) h2 (by omega) (by omega)
    · rw [if_neg hij]; omega
theorem ords_ev (v : ByteArray) (hv : verOk (L v) = true) (sv : v.size ≤ 400) : ∀ vs : List ByteArray, (∀ u, u ∈ vs → verOk (L u) = true ∧ u.size ≤ 400) → Ev (fun k => ordsF k v vs) (vs.map fun u => verC (vB u) (vB v))
  | [], _ => ev_now rfl
  | u :: vs, h => by
    simp only [ordsF]
    exact ev_bind (tord_ev u v (h u (by simp)).1 hv (h u (by simp)).2 sv) (ev_bind (ords_ev v hv sv vs fun x hx => h x (List.mem_cons_of_mem _ hx)) (ev_now rfl))
theorem last_at {l : List ByteArray} (h : 0 < l.length) : rdOf ByteArray.empty l ((l.length : Int) - 1) = l[l.length - 1]'(by omega) := by
  have e : (l.length : Int) - 1 = ((l.length - 1 : Nat) : Int) := by omega
  rw [e, rdOf_at _ _ _ (by omega)]
/-! ### a row or a version more -/
/-- W is r with row y in place of those of its path. -/
def MORE (r W : List Rw) (p : ByteArray) : Prop := ∃ (A M B : List Rw) (y : Rw), r = A ++ M ++ B ∧ W = A ++ y :: B ∧ y.f0 = p ∧ (∀ z, z ∈ M → z.f0 = p ∧ verC (vB (bldN z).f1) (vB (bldN y).f1) ≤ 0) ∧ (∀ z, z ∈ A ++ B → z.f0 ≠ p) ∧ chkR none W = true ∧ smallR W ∧ W.length ≤ 13
theorem rowV_iff (r : Rw) : rowV r = true ↔ isPath (L r.f0) = true ∧ r.f1 ≠ [] ∧ (∀ v, v ∈ r.f1 → verOk (L v) = true) ∧ r.f1.Pairwise verLt := by
  unfold rowV
  rw [Bool.and_eq_true, Bool.and_eq_true, Bool.not_eq_true', List.isEmpty_eq_false_iff, chkV_iff]
theorem cmp_gt {a b : List UInt8} (h : ¬ cmpL a b < 0) (hne : a ≠ b) : cmpL b a < 0 := by
  rw [cmpL_flip]
  have : cmpL a b ≠ 0 := fun e => hne (cmpL_zero.1 e)
  omega
theorem row_new (r : List Rw) (hS : smR12 r) (hc : chkR none r = true) (p v : ByteArray) (sp : p.size ≤ 400) (sv : v.size ≤ 400) (hp : isPath (L p) = true) (hv : verOk (L v) = true) (t : Nat) (ht : t ≤ r.length) (hlt : ∀ (i : Nat) (h : i < r.length), i < t → cmpL (L r[i].f0) (L p) < 0)
    (hge : ∀ (i : Nat) (h : i < r.length), t ≤ i → ¬ cmpL (L r[i].f0) (L p) < 0) (hne : ∀ (h : t < r.length), r[t].f0 ≠ p) : MORE r (addNew r t p v) p := by
  obtain ⟨h1, h2⟩ := (chkR_iff r).1 hc
  have hpw := List.pairwise_iff_getElem.1 h2
  have hA : ∀ z, z ∈ r.take t → cmpL (L z.f0) (L p) < 0 := fun z hz => by
    obtain ⟨i, hi, rfl⟩ := List.mem_iff_getElem.1 hz
    rw [List.length_take] at hi
    rw [List.getElem_take]
    exact hlt i (by omega) (by omega)
  have hB : ∀ z, z ∈ r.drop t → cmpL (L p) (L z.f0) < 0 := fun z hz => by
    obtain ⟨i, hi, rfl⟩ := List.mem_iff_getElem.1 hz
    rw [List.length_drop] at hi
    rw [List.getElem_drop]
    refine cmp_gt (hge _ (by omega) (by omega)) fun e => ?_
    have e := L_inj e
    cases i with
    | zero => exact hne (by omega) e
    | succ i =>
      have h3 := hpw t (t + (i + 1)) (by omega) (by omega) (by omega)
      unfold rth at h3
      rw [e] at h3
      exact hge t (by omega) (Nat.le_refl _) h3
  have hl : r.take t ++ r.drop t = r := List.take_append_drop t r
  have hpw2 := h2
  rw [← hl] at hpw2
  obtain ⟨q1, q2, q3⟩ := List.pairwise_append.1 hpw2
  have hmem : ∀ z, z ∈ r.take t ++ r.drop t → z ∈ r := fun z hz => by rw [hl] at hz; exact hz
  refine ⟨r.take t, [], r.drop t, ⟨p, [v]⟩, by rw [List.append_nil, hl], rfl, rfl, fun z hz => by simp at hz, fun z hz e => ?_, (chkR_iff _).2 ⟨fun z hz => ?_, ?_⟩, fun z hz => ?_, ?_⟩
  · subst e
    rcases List.mem_append.1 hz with hz | hz
    · have := hA z hz; rw [cmpL_self] at this; omega
    · have := hB z hz; rw [cmpL_self] at this; omega
  · rcases List.mem_append.1 hz with hz | hz
    · exact h1 z (List.mem_of_mem_take hz)
    · rcases List.mem_cons.1 hz with rfl | hz
      · exact (rowV_iff _).2 ⟨hp, by simp, fun u hu => by rw [List.mem_singleton.1 hu]; exact hv, List.pairwise_singleton _ _⟩
      · exact h1 z (List.mem_of_mem_drop hz)
  · refine List.pairwise_append.2 ⟨q1, List.pairwise_cons.2 ⟨hB, q2⟩, fun a ha b hb => ?_⟩
    rcases List.mem_cons.1 hb with rfl | hb
    · exact hA a ha
    · exact q3 a ha b hb
  · rcases List.mem_append.1 hz with hz | hz
    · exact smR_of hS z (List.mem_of_mem_take hz)
    · rcases List.mem_cons.1 hz with rfl | hz
      · exact ⟨sp, by simp, fun u hu => by rw [List.mem_singleton.1 hu]; exact sv⟩
      · exact smR_of hS z (List.mem_of_mem_drop hz)
  · have := hS.1
    show (r.take t ++ (⟨p, [v]⟩ : Rw) :: r.drop t).length ≤ 13
    rw [List.length_append, List.length_cons, List.length_take, List.length_drop]
    omega
theorem row_more (r : List Rw) (hS : smR12 r) (hc : chkR none r = true) (v : ByteArray) (sv : v.size ≤ 400) (hv : verOk (L v) = true) (t : Nat) (ht : t < r.length) (j : Nat) (hj : j ≤ r[t].f1.length) (hlt : ∀ (i : Nat) (h : i < r[t].f1.length), i < j → verC (vB r[t].f1[i]) (vB v) < 0)
    (hge : ∀ (i : Nat) (h : i < r[t].f1.length), j ≤ i → 0 < verC (vB r[t].f1[i]) (vB v)) : MORE r (addTo r t j v) r[t].f0 := by
  obtain ⟨h1, h2⟩ := (chkR_iff r).1 hc
  obtain ⟨x, hx⟩ : ∃ x, x = r[t] := ⟨_, rfl⟩
  have hxm : x ∈ r := by rw [hx]; exact List.getElem_mem ht
  rw [← hx] at hj hlt hge ⊢
  obtain ⟨v1, v2, v3, v4⟩ := (rowV_iff x).1 (h1 x hxm)
  have sx := smR_of hS x hxm
  have h0 : 0 < x.f1.length := List.length_pos_iff.2 v2
  have hA : ∀ u, u ∈ x.f1.take j → verLt u v := fun u hu => by
    obtain ⟨i, hi, rfl⟩ := List.mem_iff_getElem.1 hu
    rw [List.length_take] at hi
    rw [List.getElem_take]
    exact hlt i (by omega) (by omega)
  have hB : ∀ u, u ∈ x.f1.drop j → verLt v u := fun u hu => by
    obtain ⟨i, hi, rfl⟩ := List.mem_iff_getElem.1 hu
    rw [List.length_drop] at hi
    rw [List.getElem_drop]
    have := hge _ (by omega) (Nat.le_add_right j i)
    unfold verLt
    rw [tot_ver.flip]
    omega
  have hvl : x.f1.take j ++ x.f1.drop j = x.f1 := List.take_append_drop j x.f1
  have hvp := v4
  rw [← hvl] at hvp
  obtain ⟨q1, q2, q3⟩ := List.pairwise_append.1 hvp
  obtain ⟨y, hy⟩ : ∃ y : Rw, y = ⟨x.f0, insV x.f1 j v⟩ := ⟨_, rfl⟩
  have hyf : y.f1 = x.f1.take j ++ [v] ++ x.f1.drop j := by rw [hy]; rfl
  have hym : ∀ u, u ∈ y.f1 → u ∈ x.f1 ∨ u = v := fun u hu => by
    rw [hyf] at hu
    rcases List.mem_append.1 hu with hu | hu
    · rcases List.mem_append.1 hu with hu | hu
      · exact .inl (List.mem_of_mem_take hu)
      · exact .inr (List.mem_singleton.1 hu)
    · exact .inl (List.mem_of_mem_drop hu)
  have hyl : y.f1.length = x.f1.length + 1 := by rw [hyf]; simp only [List.length_append, List.length_take, List.length_drop, List.length_cons, List.length_nil]; omega
  have hyV : rowV y = true := (rowV_iff y).2 ⟨by rw [hy]; exact v1, fun e => by rw [e] at hyl; simp at hyl, fun u hu => (hym u hu).elim (v3 u) (fun e => by rw [e]; exact hv), by
    rw [hyf, List.append_assoc]
    refine List.pairwise_append.2 ⟨q1, List.pairwise_cons.2 ⟨hB, q2⟩, fun a ha b hb => ?_⟩
    rcases List.mem_cons.1 hb with rfl | hb
    · exact hA a ha
    · exact q3 a ha b hb⟩
  have hW : addTo r t j v = r.take t ++ y :: r.drop (t + 1) := by
    unfold addTo
    rw [rdR63 r t ht, ← hx, ← hy, List.set_eq_take_append_cons_drop, if_pos ht]
  have hr : r = r.take t ++ [x] ++ r.drop (t + 1) := by rw [List.append_assoc, hx]; simp
  have hpw := h2
  rw [hr, List.append_assoc] at hpw
  obtain ⟨p1, p2, p3⟩ := List.pairwise_append.1 hpw
  obtain ⟨p4, p5⟩ := List.pairwise_cons.1 p2
  have e0 : y.f0 = x.f0 := by rw [hy]
  have hlast : verC (vB (bldN x).f1) (vB (bldN y).f1) ≤ 0 := by
    unfold bldN
    rw [last_at h0, last_at (by omega)]
    by_cases hjl : j = x.f1.length
    · have e1 : y.f1[y.f1.length - 1]'(by omega) = v := by
        have hz : y.f1 = x.f1 ++ [v] := by rw [hyf, hjl, List.take_length, List.drop_length, List.append_nil]
        simp [hz]
      rw [e1]
      exact Int.le_of_lt (hlt (x.f1.length - 1) (by omega) (by omega))
    · have e1 : y.f1[y.f1.length - 1]'(by omega) = x.f1[x.f1.length - 1]'(by omega) := by
        have hz : y.f1[y.f1.length - 1]? = x.f1[x.f1.length - 1]? := by
          rw [hyf, List.getElem?_append_right (by simp only [List.length_append, List.length_take, List.length_drop, List.length_cons, List.length_nil]; omega), List.getElem?_drop]
          congr 1
          simp only [List.length_append, List.length_take, List.length_drop, List.length_cons, List.length_nil]
          omega
        rw [List.getElem?_eq_getElem (by omega), List.getElem?_eq_getElem (by omega)] at hz
        exact Option.some.inj hz
      rw [e1, (tot_ver.zero _ _).2 rfl]
      exact Int.le_refl _
  refine ⟨r.take t, [x], r.drop (t + 1), y, hr, hW, e0, fun z hz => by rw [List.mem_singleton.1 hz]; exact ⟨rfl, hlast⟩, fun z hz e => ?_, ?_, fun z hz => ?_, ?_⟩
  · rcases List.mem_append.1 hz with hz | hz
    · have := p3 z hz x (by simp)
      unfold rth at this
      rw [e, cmpL_self] at this; omega
    · have := p4 z hz
      unfold rth at this
      rw [e, cmpL_self] at this; omega
  · rw [hW]
    refine (chkR_iff _).2 ⟨fun z hz => ?_, List.pairwise_append.2 ⟨p1, List.pairwise_cons.2 ⟨fun z hz => ?_, p5⟩, fun a ha b hb => ?_⟩⟩
    · rcases List.mem_append.1 hz with hz | hz
      · exact h1 z (List.mem_of_mem_take hz)
      · rcases List.mem_cons.1 hz with rfl | hz
        · exact hyV
        · exact h1 z (List.mem_of_mem_drop hz)
    · unfold rth
      rw [e0]
      exact p4 z hz
    · rcases List.mem_cons.1 hb with rfl | hb
      · unfold rth
        rw [e0]
        exact p3 a ha x (by simp)
      · exact p3 a ha b (List.mem_cons_of_mem _ hb)
  · rw [hW] at hz
    rcases List.mem_append.1 hz with hz | hz
    · exact smR_of hS z (List.mem_of_mem_take hz)
    · rcases List.mem_cons.1 hz with rfl | hz
      · exact ⟨by rw [e0]; exact sx.1, by have := (hS.2 x hxm).2.1; omega, fun u hu => (hym u hu).elim (sx.2.2 u) (fun e => by rw [e]; exact sv)⟩
      · exact smR_of hS z (List.mem_of_mem_drop hz)
  · have := hS.1
    rw [hW, List.length_append, List.length_cons, List.length_take, List.length_drop]
    omega
theorem okA_of {r : List Rw} (hS : smR12 r) : okA r = true := by
  unfold okA
  rw [Bool.and_eq_true, decide_eq_true_eq, List.all_eq_true]
  exact ⟨by have := hS.1; omega, fun x hx => decide_eq_true (by have := (hS.2 x hx).2.1; omega)⟩
theorem add_ev (r : List Rw) (hS : smR12 r) (p v : ByteArray) (sp : p.size ≤ 400) (sv : v.size ≤ 400) : (∃ e : Int, e ≠ 0 ∧ Ev (fun k => tally_Add.f k r p v) (r, e)) ∨ ∃ W, chkR none r = true ∧ MORE r W p ∧ isPath (L p) = true ∧ Ev (fun k => tally_Add.f k r p v) (W, 0) := by
  have hl := hS.1
  have hck := tallyCheck_ev r (smR_of hS) (by omega)
  have ok := okA_of hS
  unfold tally_Add.f
  cases hc : chkR none r with
  | false =>
    rw [hc] at hck
    exact .inl ⟨1, by decide, ev_pos ok (ev_bind hck (ev_neg (by decide) (ev_now rfl)))⟩
  | true =>
    rw [hc] at hck
    have hmay := nodeMay_ev p v (by omega) (by omega)
    cases hm : (isPath (L p) && verOk (L v)) with
    | false =>
      rw [hm] at hmay
      exact .inl ⟨1, by decide, ev_pos ok (ev_bind hck (ev_pos rfl (ev_bind hmay (ev_neg (by decide) (ev_now rfl)))))⟩
    | true =>
      rw [hm] at hmay
      rw [Bool.and_eq_true] at hm
      obtain ⟨hp, hv⟩ := hm
      obtain ⟨h1, h2⟩ := (chkR_iff r).1 hc
      obtain ⟨t, ht, hlt, hge⟩ := cut_at (fun z : Rw => decide (cmpL (L z.f0) (L p) < 0)) r (h2.imp fun {a b} h hb => decide_eq_true (tot_cmpL.strictL h (by have := of_decide_eq_true hb; omega)))
      have hlt := fun i h hi => of_decide_eq_true (hlt i h hi)
      have hge := fun i h hi => of_decide_eq_false (hge i h hi)
      have hbs : bsR r p = t := bs_at r p t hlt hge r.length 0 r.length (by omega) (by omega) ht (Nat.le_refl _)
      cases hh : hasR r p with
      | false =>
        refine .inr ⟨addNew r t p v, rfl, row_new r hS hc p v sp sv hp hv t ht hlt hge (fun h e => ?_), hp, ?_⟩
        · unfold hasR at hh
          rw [hbs, rdR63 r t h, e, (cmpP_zero p p).2 rfl, decide_eq_true h] at hh
          cases hh
        · rw [← hbs]
          exact ev_pos ok (ev_bind hck (ev_pos rfl (ev_bind hmay (ev_pos rfl (ev_neg (by decide) (ev_now rfl))))))
      | true =>
        have hh2 := hh
        unfold hasR at hh2
        rw [hbs, Bool.and_eq_true, decide_eq_true_eq] at hh2
        obtain ⟨htl, he⟩ := hh2
        rw [rdR63 r t htl] at he
        have he : r[t].f0 = p := (cmpP_zero _ _).1 (by simpa using he)
        obtain ⟨v1, v2, v3, v4⟩ := (rowV_iff _).1 (h1 r[t] (List.getElem_mem htl))
        have sx := hS.2 r[t] (List.getElem_mem htl)
        have hor := ords_ev v hv sv r[t].f1 (fun u hu => ⟨v3 u hu, sx.2.2 u hu⟩)
        obtain ⟨cs, hcs⟩ : ∃ cs, cs = r[t].f1.map fun u => verC (vB u) (vB v) := ⟨_, rfl⟩
        rw [← hcs] at hor
        have hcl : cs.length = r[t].f1.length := by rw [hcs, List.length_map]
        have hcg : ∀ (i : Nat) (h : i < cs.length), cs[i] = verC (vB (r[t].f1[i]'(by omega))) (vB v) := fun i h => by simp [hcs]
        obtain ⟨j, hj, jlt, jge⟩ := cut_at (fun c : Int => decide (c < 0)) cs (by
          rw [hcs]
          refine List.pairwise_map.2 (v4.imp fun {a b} h hb => decide_eq_true ?_)
          exact tot_ver.strictL h (by have := of_decide_eq_true hb; omega))
        have jlt := fun i h hi => of_decide_eq_true (jlt i h hi)
        have jge := fun i h hi => of_decide_eq_false (jge i h hi)
        have hbi : bsI cs = j := bsI_at cs j jlt jge cs.length 0 cs.length (by omega) (by omega) hj (Nat.le_refl _)
        have hrd : rd_T63 r (bsR r p : Int) = r[t] := by rw [hbs, rdR63 r t htl]
        cases hI : hasI cs with
        | true =>
          refine .inl ⟨3, by decide, ev_pos ok (ev_bind hck (ev_pos rfl (ev_bind hmay (ev_pos rfl (ev_pos rfl ?_)))))⟩
          rw [hrd]
          exact ev_bind hor (ev_pos hI (ev_now rfl))
        | false =>
          refine .inr ⟨addTo r t j v, rfl, ?_, hp, ev_pos ok (ev_bind hck (ev_pos rfl (ev_bind hmay (ev_pos rfl (ev_pos rfl ?_)))))⟩
          · have := row_more r hS hc v sv hv t htl j (by omega) (fun i h hi => by rw [← hcg i (by omega)]; exact jlt i (by omega) hi) (fun i h hi => by
              have h5 := jge i (by omega) hi
              rw [hcg i (by omega)] at h5
              have h6 : verC (vB r[t].f1[i]) (vB v) ≠ 0 := fun e0 => by
                unfold hasI at hI
                rw [hbi] at hI
                rcases Nat.lt_or_eq_of_le hi with h7 | h7
                · have h8 := List.pairwise_iff_getElem.1 v4 j i (by omega) h h7
                  unfold verLt at h8
                  have h9 := jge j (by omega) (Nat.le_refl _)
                  rw [hcg j (by omega)] at h9
                  have := tot_ver.strictL h8 (by rw [e0]; exact Int.le_refl _)
                  omega
                · subst h7
                  rw [decide_eq_true (show j < cs.length by omega), List.getD_eq_getElem?_getD, List.getElem?_eq_getElem (by omega), Option.getD_some, hcg j (by omega), e0] at hI
                  cases hI
              omega)
            rw [he] at this
            exact this
          · rw [hrd]
            refine ev_bind hor (ev_neg (by rw [hI]; decide) (ev_now ?_))
            rw [hbs, hbi]
/-! ### what a row or a version more comes to -/
theorem okB_bld {l : List Rw} (h : chkR none l = true) : okB (l.map bldN) = true := by
  obtain ⟨h1, h2⟩ := (chkR_iff l).1 h
  refine (okB_iff _).2 ⟨fun n hn => ?_, List.pairwise_map.2 (h2.imp fun {a b} h => h)⟩
  obtain ⟨z, hz, rfl⟩ := List.mem_map.1 hn
  obtain ⟨v1, v2, v3, -⟩ := (rowV_iff z).1 (h1 z hz)
  have h0 : 0 < z.f1.length := List.length_pos_iff.2 v2
  unfold nodeOk
  rw [Bool.and_eq_true]
  refine ⟨v1, ?_⟩
  unfold bldN
  rw [last_at h0]
  exact v3 _ (List.getElem_mem _)
theorem bld_small {l : List Rw} (h : chkR none l = true) (hS : smallR l) : smallL (l.map bldN) := fun n hn => by
  obtain ⟨z, hz, rfl⟩ := List.mem_map.1 hn
  obtain ⟨v1, v2, v3, -⟩ := (rowV_iff z).1 (((chkR_iff l).1 h).1 z hz)
  have h0 : 0 < z.f1.length := List.length_pos_iff.2 v2
  refine ⟨(hS z hz).1, ?_⟩
  unfold bldN
  rw [last_at h0]
  exact (hS z hz).2.2 _ (List.getElem_mem _)
theorem abvP_iff (x y : ByteArray) : abvP x y = true ↔ L y ≠ [] ∧ verC (vB x) (vB y) ≤ 0 := by
  unfold abvP
  rw [Bool.and_eq_true, decide_eq_true_eq, Bool.not_eq_true', decide_eq_false_iff_not, tot_ver.flip (vB x) (vB y)]
  exact and_congr_right fun _ => ⟨fun h => by omega, fun h => by omega⟩
theorem abv_iff (a b : List Nd) : abvL a b = true ↔ ∀ n, n ∈ a → ∃ m, m ∈ b ∧ m.f0 = n.f0 ∧ pickL n.f0 b = m.f1 ∧ L m.f1 ≠ [] ∧ verC (vB n.f1) (vB m.f1) ≤ 0 := by
  unfold abvL
  rw [List.all_eq_true]
  refine forall_congr' fun n => forall_congr' fun hn => ?_
  rw [abvP_iff]
  constructor
  · rintro ⟨h1, h2⟩
    rcases pickL_cases n.f0 b with ⟨h, -⟩ | ⟨m, hm, e, h⟩
    · exact absurd (by rw [h]; rfl) h1
    · rw [h] at h1 h2
      exact ⟨m, hm, e, h, h1, h2⟩
  · rintro ⟨m, hm, e, h, h1, h2⟩
    rw [h]; exact ⟨h1, h2⟩

theorem more_abv {r W : List Rw} {p : ByteArray} (h : MORE r W p) : abvL (r.map bldN) (W.map bldN) = true := by
  obtain ⟨A, M, B, y, rfl, rfl, hy, hM, hAB, hc, -, -⟩ := h
  obtain ⟨ok, pw⟩ := (okB_iff _).1 (okB_bld hc)
  have hin : ∀ z, z ∈ A ++ y :: B → (bldN z) ∈ (A ++ y :: B).map bldN := fun z hz => List.mem_map.2 ⟨z, hz, rfl⟩
  have hne : ∀ z, z ∈ A ++ y :: B → L (bldN z).f1 ≠ [] := fun z hz => by
    have := ok _ (hin z hz)
    unfold nodeOk at this
    rw [Bool.and_eq_true] at this
    exact ver_ne this.2
  refine (abv_iff _ _).2 fun n hn => ?_
  obtain ⟨z, hz, rfl⟩ := List.mem_map.1 hn
  have same : z ∈ A ++ y :: B → ∃ m, m ∈ (A ++ y :: B).map bldN ∧ m.f0 = (bldN z).f0 ∧ pickL (bldN z).f0 ((A ++ y :: B).map bldN) = m.f1 ∧ L m.f1 ≠ [] ∧ verC (vB (bldN z).f1) (vB m.f1) ≤ 0 := fun hz => ⟨bldN z, hin z hz, rfl, pickL_mem pw (hin z hz), hne z hz, by rw [(tot_ver.zero _ _).2 rfl]; exact Int.le_refl _⟩
  rcases List.mem_append.1 hz with hz | hz
  · rcases List.mem_append.1 hz with hz | hz
    · exact same (List.mem_append_left _ hz)
    · have hyW : y ∈ A ++ y :: B := List.mem_append_right _ List.mem_cons_self
      have e : (bldN z).f0 = (bldN y).f0 := (hM z hz).1.trans hy.symm
      exact ⟨bldN y, hin y hyW, e.symm, by rw [e]; exact pickL_mem pw (hin y hyW), hne y hyW, (hM z hz).2⟩
  · exact same (List.mem_append_right _ (List.mem_cons_of_mem _ hz))
theorem more_last {r W : List Rw} {p q : ByteArray} (h : MORE r W p) (hq : q ≠ p) : lastL q (r.map bldN) = lastL q (W.map bldN) := by
  obtain ⟨A, M, B, y, rfl, rfl, hy, hM, hAB, -⟩ := h
  have h1 : ∀ v : ByteArray, (M.map bldN).foldl (fun v n => if n.f0 = q then n.f1 else v) v = v := fun v => lastG_none fun n hn e => by
    obtain ⟨z, hz, rfl⟩ := List.mem_map.1 hn
    exact hq (e.symm.trans (hM z hz).1)
  have h2 : ∀ v : ByteArray, ((bldN y) :: B.map bldN).foldl (fun v n => if n.f0 = q then n.f1 else v) v = (B.map bldN).foldl (fun v n => if n.f0 = q then n.f1 else v) v := fun v => by
    rw [List.foldl_cons, if_neg (fun e => hq (e.symm.trans hy))]
  unfold lastL
  rw [List.map_append, List.map_append, List.map_append, List.map_cons, List.foldl_append, List.foldl_append, List.foldl_append, h1, h2]
theorem more_delta {r W : List Rw} {p : ByteArray} (h : MORE r W p) : (deltaL (r.map bldN) (W.map bldN)).length ≤ 1 := by
  have hp : ∀ x, x ∈ deltaL (r.map bldN) (W.map bldN) → x.f0 = p := fun x hx => Classical.byContradiction fun hne => by
    obtain ⟨-, h1, h2, h3⟩ := delta_mem hx
    exact h3 (by rw [h1, h2]; exact more_last h hne)
  have hs := delta_sorted (r.map bldN) (W.map bldN)
  generalize deltaL (r.map bldN) (W.map bldN) = d at hp hs ⊢
  match d, hp, hs with
  | [], _, _ => simp
  | [_], _, _ => simp
  | x :: y :: d, hp, hs =>
    have h1 := (List.pairwise_cons.1 hs).1 y (by simp)
    rw [hp x (by simp), hp y (by simp)] at h1
    exact absurd h1 (ltP_irr _)
theorem ListMore : graftwoodlaw17_ListMore.Goal := by
  intro x0 x1 _ _
  refine ev_rounds (g := fun k => graftwoodlaw17_ListMore.f k x0 x1.f0 x1.f1) ?_
  unfold graftwoodlaw17_ListMore.f
  rw [One_eq]
  refine ev_bind (few16_ev x0) (ev_some ?_)
  have sR : smR12 (fewR x0) := ⟨fewR_len x0, fun r hr => fewR_rows hr⟩
  have sp := few_size x1.f0
  have sv := few_size x1.f1
  generalize fewR x0 = r at sR ⊢
  generalize few x1.f0 = p at sp ⊢
  generalize few x1.f1 = v at sv ⊢
  rcases add_ev r sR p v sp sv with ⟨e, he, ha⟩ | ⟨W, hc, hM, hp, ha⟩
  · exact ev_bind ha (ev_neg he (ev_last awake17_ev))
  · have hl := sR.1
    have hM2 := hM
    obtain ⟨A, M, B, y, hr, hW, hy, -, -, hcW, sW, lW⟩ := hM2
    have htl : A.length < W.length := by rw [hW]; simp
    have hWt : W[A.length] = y := by simp [hW]
    have hyW : y ∈ W := by rw [hW]; simp
    have oka := okB_bld hc
    have okb := okB_bld hcW
    have sma := bld_small hc (smR_of sR)
    have smb := bld_small hcW sW
    have hpk := pick_ev (W.map bldN) p smb (by rw [List.length_map]; omega) (by omega)
    rw [okb, hp, Bool.and_self, if_pos rfl] at hpk
    have e1 : pickR p (W.map bldN) = ((bldN y).f1, 0) := by
      have := pickR_mem ((okB_iff _).1 okb).2 (List.mem_map.2 ⟨y, hyW, rfl⟩ : bldN y ∈ W.map bldN)
      rw [show (bldN y).f0 = p from hy] at this
      exact this
    have hbe := best_ok W sW (by omega) hcW A.length htl
    rw [hWt, hy] at hbe
    have hck := listCheck_ev (W.map bldN) smb (by rw [List.length_map]; omega)
    rw [okb] at hck
    have hla : (r.map bldN).length ≤ 1000000 := by rw [List.length_map]; omega
    have hlb : (W.map bldN).length ≤ 1000000 := by rw [List.length_map]; omega
    have hab := above_ok (r.map bldN) (W.map bldN) oka okb sma smb hla hlb
    rw [more_abv hM] at hab
    have hde := delta_ok (r.map bldN) (W.map bldN) sma smb hla hlb (by rw [oka, okb]; rfl)
    have hd1 := more_delta hM
    refine ev_bind ha (ev_pos rfl (ev_bind (build_ok r (smR_of sR) (by omega) hc) (ev_bind (build_ok W sW (by omega) hcW) (ev_bind hab (ev_bind hde (ev_bind hpk (ev_bind hbe ?_)))))))
    rw [e1]
    exact ev_pos rfl (ev_pos rfl (ev_pos rfl (ev_pos rfl (ev_pos rfl (ev_pos rfl (ev_pos rfl (ev_pos (Int.ofNat_le.2 hd1) (ev_pos rfl (ev_pos (by rw [List.length_map]) (ev_bind hck (ev_pos rfl (ev_last awake17_ev))))))))))))
end Go.Proofs.YtknmfmedklfepaaGreatDoor.Pure
