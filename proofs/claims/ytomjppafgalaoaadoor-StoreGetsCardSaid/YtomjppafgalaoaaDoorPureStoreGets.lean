import Derived.Test.YtomjppafgalaoaaDoorWWords
import Derived.Test.YtomjppafgalaoaaDoorWMore
import Derived.Lib.Strings
import Derived.Test.YtomjppafgalaoaaDoorP3
import Derived.Test.YtomjppafgalaoaaDoorP5
import Derived.Test.YtomjppafgalaoaaDoorP17
import Derived.Test.YtomjppafgalaoaaDoorP6
import Derived.Test.YtomjppafgalaoaaDoorP4
import Derived.Test.YtomjppafgalaoaaDoorP12
import Derived.Test.YtomjppafgalaoaaDoorP7
import Derived.Test.YtomjppafgalaoaaDoorP13
import Derived.Test.YtomjppafgalaoaaDoorP18
import Derived.Test.YtomjppafgalaoaaDoorP19
import Derived.Test.YtomjppafgalaoaaDoorP9
import Derived.Test.YtomjppafgalaoaaDoorP20
import Derived.Test.YtomjppafgalaoaaDoorP21
import Derived.Test.YtomjppafgalaoaaDoorP23
import Derived.Test.YtomjppafgalaoaaDoorP24
import Derived.Test.YtomjppafgalaoaaDoorGStoreGets
/-
  Plain lemmas: 'eventually' (Ev) over the number of rounds, lists of octets. No program in sight.
-/
namespace Go.Proofs.YtomjppafgalaoaaDoorB
open Go.RowKit Go.Proofs.YtomjppafgalaoaaDoorW.PrintWords Go.Proofs.YtomjppafgalaoaaDoorW.PrintLast Go.Proofs.YtomjppafgalaoaaDoorW.PrintMore

theorem ev_bind {α β : Type} {g : Nat → Option α} {f : Nat → α → Option β} {a : α} {r : β} (h : Ev g a) (k : Ev (fun n => f n a) r) : Ev (fun n => (g n).bind (f n)) r := Ev.bind h k
theorem ev_some {α β : Type} {f : Nat → α → Option β} {a : α} {r : β} (k : Ev (fun n => f n a) r) : Ev (fun n => (some a).bind (f n)) r := k
theorem ev_pos {α : Type} {c : Prop} [Decidable c] {f g : Nat → Option α} {r : α} (h : c) (k : Ev f r) : Ev (fun n => if c then f n else g n) r := by
  simpa only [if_pos h] using k
theorem ev_neg {α : Type} {c : Prop} [Decidable c] {f g : Nat → Option α} {r : α} (h : ¬ c) (k : Ev g r) : Ev (fun n => if c then f n else g n) r := by
  simpa only [if_neg h] using k
theorem ev_ite {α : Type} {c : Prop} [Decidable c] {f g : Nat → Option α} {r : α} (h : c → Ev f r) (k : ¬ c → Ev g r) : Ev (fun n => if c then f n else g n) r := by
  by_cases hc : c
  · exact ev_pos hc (h hc)
  · exact ev_neg hc (k hc)
theorem ev_now {α : Type} {a r : α} (h : a = r) : Ev (fun _ => some a) r := by subst h; exact ⟨0, fun _ _ => rfl⟩
theorem ev_last {α : Type} {g : Nat → Option α} {r : α} (h : Ev g r) : Ev (fun n => (g n).bind fun t => some t) r := ev_bind h (ev_now rfl)
theorem ev_step {α : Type} {g f : Nat → Option α} {r : α} (h : ∀ k, g (k + 1) = f k) (k : Ev f r) : Ev g r := Ev.step h k

/-! ### numbers -/
theorem w_id {i : Int} (h0 : -9223372036854775808 ≤ i) (h1 : i ≤ 9223372036854775807) : wrap64 i = i := by unfold wrap64; omega
theorem w_small {i : Int} (h0 : -4611686018427387904 ≤ i) (h1 : i ≤ 4611686018427387904) : wrap64 i = i := w_id (by omega) (by omega)
theorem w_succ (i : Nat) (h : i ≤ 4611686018427387904) : wrap64 ((i : Int) + 1) = ((i + 1 : Nat) : Int) := by
  have h1 : wrap64 ((i : Int) + 1) = (i : Int) + 1 := w_id (by omega) (by omega)
  rw [h1]; rfl
theorem mn_eq (a b : Nat) : mn (a : Int) (b : Int) = ((min a b : Nat) : Int) := by unfold mn; split <;> omega

/-! ### texts -/
/-- A text's octets. -/
def L (s : ByteArray) : List UInt8 := s.data.toList
theorem L_size (s : ByteArray) : (L s).length = s.size := by simp [L]
theorem L_inj {a b : ByteArray} (h : L a = L b) : a = b := by
  cases a; cases b; simp only [L] at h; congr; exact Array.ext' h
theorem toList_L (s : ByteArray) : s.toList = L s := Lib.toList_data s
theorem L_mk (l : List UInt8) : L ⟨l.toArray⟩ = l := rfl
theorem mk_L (s : ByteArray) : (⟨(L s).toArray⟩ : ByteArray) = s := by cases s; rfl
theorem L_extract (s : ByteArray) (a b : Nat) : L (s.extract a b) = ((L s).drop a).take (b - a) := Lib.extract_data s a b
theorem bt_L (s : ByteArray) (i : Nat) (h : i < (L s).length) : bt s i = ((L s)[i].toNat : Int) := by
  have h' : i < s.size := by rw [← L_size]; exact h
  unfold bt
  rw [dif_pos (by simpa using h')]
  rfl
theorem rdOf_at {α : Type} (d : α) (l : List α) (i : Nat) (h : i < l.length) : rdOf d l i = l[i] := by
  simp [rdOf, List.getD_eq_getElem?_getD, h]

/-! ### the order of texts -/
theorem less_eq : ∀ (x y : List UInt8), Op.bytesLess x y = decide (x < y)
  | [], [] => by simp [Op.bytesLess]
  | _ :: _, [] => by simp [Op.bytesLess]
  | [], _ :: _ => by simp [Op.bytesLess]
  | a :: x, b :: y => by
    rw [Op.bytesLess, less_eq x y]
    simp only [List.cons_lt_cons_iff]
    by_cases h1 : a < b <;> by_cases h2 : a = b <;> by_cases h3 : x < y <;> simp [h1, h2, h3]
/-- Two texts held against one another. -/
def cmpL (x y : List UInt8) : Int := if x < y then -1 else if y < x then 1 else 0
theorem cmpL_zero {x y : List UInt8} : cmpL x y = 0 ↔ x = y := by
  unfold cmpL
  constructor
  · intro h
    by_cases h1 : x < y
    · rw [if_pos h1] at h; omega
    · rw [if_neg h1] at h
      by_cases h2 : y < x
      · rw [if_pos h2] at h; omega
      · exact List.le_antisymm (List.not_lt.1 h2) (List.not_lt.1 h1)
  · intro h; subst h; simp [List.lt_irrefl]
theorem cmpL_neg {x y : List UInt8} : cmpL x y < 0 ↔ x < y := by
  unfold cmpL
  by_cases h1 : x < y
  · simp [h1]
  · by_cases h2 : y < x <;> simp [h1, h2]
theorem cmpL_flip (x y : List UInt8) : cmpL y x = - cmpL x y := by
  unfold cmpL
  by_cases h1 : x < y
  · have h2 : ¬ y < x := List.lt_asymm h1
    simp [h1, h2]
  · by_cases h2 : y < x <;> simp [h1, h2]
theorem cmpL_le {x y : List UInt8} : cmpL x y ≤ 0 ↔ x ≤ y := by
  rw [← List.not_lt, ← cmpL_neg, cmpL_flip x y]
  omega
end Go.Proofs.YtomjppafgalaoaaDoorB

/-
  What the printed functions of layer 1 (octet), its reference and its law's helpers come to: plain lists of octets.
-/
namespace Go.Proofs.YtomjppafgalaoaaDoor.Q
open Go.RowKit Go.Proofs.YtomjppafgalaoaaDoor.P Go.Proofs.YtomjppafgalaoaaDoorB Go.Proofs.YtomjppafgalaoaaDoorW.PrintWords Go.Proofs.YtomjppafgalaoaaDoorW.PrintLast Go.Proofs.YtomjppafgalaoaaDoorW.PrintMore
set_option linter.unusedSimpArgs false

/-! ### Few -/
def few (a : ByteArray) : ByteArray := if a.size > 400 then a.extract 0 400 else a
theorem few_size (a : ByteArray) : (few a).size ≤ 400 := by
  unfold few
  split
  · simp; omega
  · omega
theorem Few_eq (a : ByteArray) : graftwoodlaw01_Few.f a = some (few a) := by
  unfold graftwoodlaw01_Few.f few
  by_cases h : a.size > 400
  · rw [if_pos (by omega), if_pos (by omega), if_pos (by omega), if_pos h]
  · rw [if_neg (by omega), if_neg h]

/-! ### Cmp -/
theorem Cmp_eq (a b : ByteArray) : octet_Cmp.f a b = some (cmpL (L a) (L b)) := by
  unfold octet_Cmp.f cmp_Compare_string.f cmp_isNaN_string.f cmpL
  simp only [Option.bind_some, bne_self_eq_false, toList_L, less_eq, decide_eq_true_eq]
  by_cases h1 : L a < L b
  · simp [h1]
  · by_cases h2 : L b < L a <;> simp [h1, h2]

/-! ### Parts -/
def partsB (c : UInt8) (s : ByteArray) : List ByteArray := (partsL c (L s)).map fun x => ⟨x.toArray⟩
theorem Parts_eq (s : ByteArray) (c : Int) (h0 : 0 ≤ c) (h1 : c < 256) (hs : s.size ≤ 1000000000) : octet_Parts.f s c = some (partsB c.toNat.toUInt8 s) := by
  unfold octet_Parts.f
  rw [if_pos h0, if_pos h1, if_pos hs]
  rfl
theorem partsB_length (c : UInt8) (s : ByteArray) : (partsB c s).length = (partsL c (L s)).length := by simp [partsB]
theorem partsL_pos (c : UInt8) (l : List UInt8) : 1 ≤ (partsL c l).length := (partsL_length c l).2
theorem partsL_ne (c : UInt8) (l : List UInt8) : partsL c l ≠ [] := fun h => by have := partsL_pos c l; rw [h] at this; simp at this
/-- Put together again. -/
def joinL (c : UInt8) : List (List UInt8) → List UInt8
  | [] => []
  | [x] => x
  | x :: y :: l => x ++ c :: joinL c (y :: l)
theorem joinL_cons (c : UInt8) (x : List UInt8) (l : List (List UInt8)) (h : l ≠ []) : joinL c (x :: l) = x ++ c :: joinL c l := by
  cases l with
  | nil => exact absurd rfl h
  | cons y l => rfl
theorem partsL_split (c : UInt8) (l : List UInt8) : ∃ h t, partsL c l = h :: t := by
  cases hp : partsL c l with
  | nil => exact absurd hp (partsL_ne c l)
  | cons h t => exact ⟨h, t, rfl⟩
theorem joinL_parts (c : UInt8) : ∀ l : List UInt8, joinL c (partsL c l) = l
  | [] => rfl
  | b :: l => by
    have ih := joinL_parts c l
    rw [partsL]
    by_cases h : b = c
    · rw [if_pos h, joinL_cons c [] _ (partsL_ne c l), ih, h]; rfl
    · rw [if_neg h]
      obtain ⟨x, t, hx⟩ := partsL_split c l
      rw [hx] at ih ⊢
      rw [← ih]
      cases t with
      | nil => rfl
      | cons y t => rfl
theorem part_le (c : UInt8) : ∀ (l : List UInt8) (p : List UInt8), p ∈ partsL c l → p.length ≤ l.length
  | [], p, hp => by simp [partsL] at hp; simp [hp]
  | b :: l, p, hp => by
    have ih := part_le c l
    obtain ⟨x, t, hx⟩ := partsL_split c l
    rw [partsL, hx] at hp
    rw [hx] at ih
    by_cases h : b = c
    · rw [if_pos h] at hp
      rcases List.mem_cons.1 hp with rfl | hp
      · simp
      · have := ih p hp; simp; omega
    · rw [if_neg h] at hp
      rcases List.mem_cons.1 hp with rfl | hp
      · have := ih x (by simp); simpa using this
      · have := ih p (by simp at hp ⊢; exact .inr hp); simp; omega
theorem All_eq (s : ByteArray) (l : List Int) (hs : s.size ≤ 1000000000) : octet_All.f s l = some (allOf l (L s)) := by
  unfold octet_All.f
  rw [if_pos hs]
  rfl
end Go.Proofs.YtomjppafgalaoaaDoor.Q

/-
  What the printed functions of layers 2 (number) and 3 (version) and their references come to.
-/
namespace Go.Proofs.YtomjppafgalaoaaDoor.Q
open Go.RowKit Go.Proofs.YtomjppafgalaoaaDoor.P Go.Proofs.YtomjppafgalaoaaDoorB Go.Proofs.YtomjppafgalaoaaDoorW.PrintWords Go.Proofs.YtomjppafgalaoaaDoorW.PrintLast Go.Proofs.YtomjppafgalaoaaDoorW.PrintMore
set_option linter.unusedSimpArgs false
set_option linter.unusedVariables false

/-! ### numbers -/
def zeroOk : List UInt8 → Bool
  | [] => true
  | b :: l => !(b == 48) || l.isEmpty
def numL (l : List UInt8) : Bool := !l.isEmpty && allOf [1] l && zeroOk l
theorem number_May_eq (s : ByteArray) (hs : s.size ≤ 1000000000) : number_May.f s = some (numL (L s)) := by
  have sz := L_size s
  unfold number_May.f
  rw [toList_L, All_eq s [1] hs]
  cases hL : L s with
  | nil => rfl
  | cons b l =>
    rw [hL] at sz
    simp only [List.length_cons] at sz
    have h0 : bt s 0 = (b.toNat : Int) := by
      have := bt_L s 0 (by rw [hL]; simp)
      simpa [hL] using this
    rw [if_neg (by simp), Option.bind_some]
    unfold numL
    cases ha : allOf [1] (b :: l) with
    | false => rw [if_neg (by simp)]; simp
    | true =>
      rw [if_pos rfl, if_pos (by omega), h0]
      have hb48 : ((b.toNat : Int) = 48) ↔ b = 48 := ⟨fun e => UInt8.toNat_inj.1 (by have : (48 : UInt8).toNat = 48 := rfl; omega), fun e => by rw [e]; rfl⟩
      by_cases h : b = 48
      · rw [if_pos (hb48.2 h)]
        congr 1
        rw [Bool.eq_iff_iff, beq_iff_eq]
        unfold zeroOk
        rw [h]
        cases l with
        | nil => simp at sz ⊢; omega
        | cons c l => simp only [List.length_cons] at sz; simp; omega
      · rw [if_neg (fun e => h (hb48.1 e))]
        unfold zeroOk
        simp [h]
def cmpI (a b : Int) : Int := if a < b then -1 else if a > b then 1 else 0
theorem Compare_eq (a b : Int) : cmp_Compare_int.f a b = some (cmpI a b) := by
  unfold cmp_Compare_int.f cmp_isNaN_int.f cmpI
  simp only [Option.bind_some, bne_self_eq_false, Bool.false_eq_true, if_false]
  split
  · rfl
  · split <;> rfl
def orL : List Int → Int
  | [] => 0
  | a :: l => if a = 0 then orL l else a
theorem Or_loop (l : List Int) (hl : l.length ≤ 1000000000) (d : Nat) : ∀ i : Nat, i + d = l.length → Ev (fun k => cmp_Or_int.l0 k 0 l l.length i) (orL (l.drop i)) := by
  induction d with
  | zero =>
    intro i hi
    refine ev_step (fun k => by rw [cmp_Or_int.l0]) ?_
    refine ev_neg (by omega) (ev_now ?_)
    rw [List.drop_eq_nil_of_le (by omega)]; rfl
  | succ d ih =>
    intro i hi
    have hil : i < l.length := by omega
    refine ev_step (fun k => by rw [cmp_Or_int.l0]) ?_
    refine ev_pos (by omega) (ev_pos (by omega) (ev_pos (by omega) ?_))
    have hr : rd l (i : Int) = l[i] := by simp [rd, List.getD_eq_getElem?_getD, hil]
    rw [hr, w_succ i (by omega), List.drop_eq_getElem_cons hil, orL]
    refine ev_ite (fun h => ?_) (fun h => ?_)
    · rw [if_pos h]; exact ih (i + 1) (by omega)
    · rw [if_neg h]; exact ev_now rfl
theorem Or_ev (l : List Int) (hl : l.length ≤ 1000000000) : Ev (fun k => cmp_Or_int.f k l) (orL l) := by
  unfold cmp_Or_int.f
  have h := Or_loop l hl l.length 0 (by omega)
  rw [List.drop_zero] at h
  exact h
/-- Two numbers held against one another. -/
def numC (a b : List UInt8) : Int := if cmpI a.length b.length = 0 then cmpL a b else cmpI a.length b.length
def numbersL (a b : List UInt8) : Int := if numL a && numL b then numC a b else 0
theorem number_Cmp_ev (a b : ByteArray) (ha : a.size ≤ 1000000000) (hb : b.size ≤ 1000000000) : Ev (fun k => number_Cmp.f k a b) (if numL (L a) && numL (L b) then (numC (L a) (L b), 0) else (0, 1)) := by
  unfold number_Cmp.f
  rw [number_May_eq a ha, number_May_eq b hb]
  simp only [Option.bind_some]
  cases numL (L a) with
  | false =>
    refine ev_neg (by decide) ?_
    refine ev_step (fun k => by rw [number_Cmp.j0]) ?_
    exact ev_pos rfl (ev_now rfl)
  | true =>
    refine ev_pos rfl ?_
    refine ev_step (fun k => by rw [number_Cmp.j0]) ?_
    cases numL (L b) with
    | false => exact ev_pos rfl (ev_now rfl)
    | true =>
      refine ev_neg (by decide) ?_
      rw [Compare_eq, Cmp_eq]
      simp only [Option.bind_some]
      refine ev_bind (Or_ev _ (by simp)) (ev_now ?_)
      simp only [orL, numC, L_size, Bool.and_self, if_true]
      by_cases h : cmpI (a.size : Int) (b.size : Int) = 0
      · rw [if_pos h, if_pos h]
        by_cases h2 : cmpL (L a) (L b) = 0
        · rw [if_pos h2, h2]
        · rw [if_neg h2]
      · rw [if_neg h, if_neg h]
theorem numbers_ev (a b : ByteArray) (ha : a.size ≤ 1000000000) (hb : b.size ≤ 1000000000) : Ev (fun k => version_numbers.f k a b) (numbersL (L a) (L b)) := by
  unfold version_numbers.f
  refine ev_bind (number_Cmp_ev a b ha hb) (ev_now ?_)
  unfold numbersL
  cases numL (L a) && numL (L b) <;> rfl

/-! ### words -/
def wordsL (a b : List UInt8) : Int := if numL a then (if numL b then numC a b else -1) else if numL b then 1 else cmpL a b
theorem words_ev (a b : ByteArray) (ha : a.size ≤ 1000000000) (hb : b.size ≤ 1000000000) : Ev (fun k => version_words.f k a b) (wordsL (L a) (L b)) := by
  have hn := numbers_ev a b ha hb
  unfold numbersL at hn
  unfold version_words.f
  rw [number_May_eq a ha, number_May_eq b hb]
  simp only [Option.bind_some]
  unfold wordsL
  cases h1 : numL (L a) with
  | false =>
    refine ev_neg (by decide) ?_
    refine ev_step (fun k => by rw [version_words.j0]) ?_
    refine ev_neg (by decide) (ev_neg (by decide) ?_)
    cases h2 : numL (L b) with
    | false =>
      refine ev_neg (by decide) ?_
      rw [Cmp_eq]
      exact ev_now rfl
    | true => exact ev_pos rfl (ev_now rfl)
  | true =>
    refine ev_pos rfl ?_
    refine ev_step (fun k => by rw [version_words.j0]) ?_
    cases h2 : numL (L b) with
    | false => exact ev_neg (by decide) (ev_pos rfl (ev_now rfl))
    | true =>
      rw [h1, h2] at hn
      exact ev_pos rfl (ev_last hn)
def badL (l : List UInt8) : Bool := l.any fun b => ([46, 95, 126] : List UInt8).contains b
theorem indexAny_any (chars : List UInt8) : ∀ l : List UInt8, decide (Lib.indexAny l chars ≥ 0) = l.any fun b => chars.contains b
  | [] => rfl
  | b :: l => by
    have ih := indexAny_any chars l
    have hg := Lib.indexAny_ge chars l
    rw [Lib.indexAny, List.any_cons, ← ih]
    cases chars.contains b with
    | true => rfl
    | false =>
      rw [if_neg (by decide), Bool.false_or]
      by_cases h : Lib.indexAny l chars = -1
      · rw [if_pos (by rw [h]; rfl), h]
      · rw [if_neg (by simpa using h)]
        congr 1
        rw [eq_iff_iff]
        constructor <;> intro _ <;> omega
theorem ContainsAny_eq (s : ByteArray) (hs : s.size ≤ 1000000000) : strings_ContainsAny.f s (⟨#[46, 95, 126]⟩ : ByteArray) = some (badL (L s)) := by
  unfold strings_ContainsAny.f strings_IndexAny.f
  rw [if_pos ⟨hs, by decide, by decide, by decide⟩, Option.bind_some]
  congr 1
  exact indexAny_any _ _
def wordL (l : List UInt8) : Bool := !l.isEmpty && !badL l && allOf [1, 2, 3] l && (numL l || !allOf [1] l)
theorem word_ev (s : ByteArray) (hs : s.size ≤ 1000000000) : Ev (fun k => version_word.f k s) (wordL (L s)) := by
  have htrue : ∀ r, r = false → Ev (fun k => version_word.j0 k s true) r := by
    intro r hr
    refine ev_step (fun k => by rw [version_word.j0]) ?_
    exact ev_pos rfl (ev_now hr.symm)
  unfold version_word.f
  rw [ContainsAny_eq s hs, All_eq s _ hs, toList_L]
  simp only [Option.bind_some]
  unfold wordL
  refine ev_ite (fun h => htrue _ (by rw [h]; rfl)) (fun h => ?_)
  have hne : (L s).isEmpty = false := by
    cases hL : L s with
    | nil => exact absurd hL h
    | cons => rfl
  rw [hne]
  cases badL (L s) with
  | true => exact ev_pos rfl (htrue _ rfl)
  | false =>
    refine ev_neg (by decide) ?_
    cases allOf [1, 2, 3] (L s) with
    | false => exact htrue _ rfl
    | true =>
      refine ev_step (fun k => by rw [version_word.j0]) ?_
      refine ev_neg (by decide) ?_
      rw [number_May_eq s hs, All_eq s _ hs]
      simp only [Option.bind_some]
      cases numL (L s) with
      | true => exact ev_pos rfl (ev_now rfl)
      | false => exact ev_neg (by decide) (ev_now rfl)

/-! ### cut -/
def cutL : List UInt8 → List UInt8 × List UInt8 × Bool
  | [] => ([], [], false)
  | b :: l => if b = 45 then ([], l, true) else (b :: (cutL l).1, (cutL l).2.1, (cutL l).2.2)
theorem cutL_index : ∀ l : List UInt8, (Lib.indexByte l 45 = -1 ∧ cutL l = (l, [], false)) ∨ ∃ i : Nat, Lib.indexByte l 45 = i ∧ i < l.length ∧ cutL l = (l.take i, l.drop (i + 1), true)
  | [] => .inl ⟨rfl, rfl⟩
  | b :: l => by
    rw [Lib.indexByte, cutL]
    by_cases h : b = 45
    · right
      rw [if_pos (by simp [h]), if_pos h]
      exact ⟨0, rfl, by simp, rfl⟩
    · rw [if_neg (by simp [h]), if_neg h]
      rcases cutL_index l with ⟨h1, h2⟩ | ⟨i, h1, h2, h3⟩
      · left
        rw [h1, h2]
        exact ⟨rfl, rfl⟩
      · right
        refine ⟨i + 1, ?_, by simp; omega, by rw [h3]; rfl⟩
        rw [h1, if_neg (by simp only [beq_iff_eq]; omega)]
        rfl
def mkB (l : List UInt8) : ByteArray := ⟨l.toArray⟩
theorem L_mkB (l : List UInt8) : L (mkB l) = l := rfl
theorem mkB_size (l : List UInt8) : (mkB l).size = l.length := by rw [← L_size, L_mkB]
theorem mkB_L (s : ByteArray) : mkB (L s) = s := mk_L s
theorem Cut_eq (s : ByteArray) (hs : s.size ≤ 1000000000) : strings_Cut.f s (⟨#[45]⟩ : ByteArray) = some (mkB (cutL (L s)).1, mkB (cutL (L s)).2.1, (cutL (L s)).2.2) := by
  have sz := L_size s
  unfold strings_Cut.f stringslite_Cut.f stringslite_Index.f
  rw [if_pos (show (⟨#[45]⟩ : ByteArray).size = 1 from rfl), Option.bind_some]
  have hsep : (⟨#[45]⟩ : ByteArray).size = 1 := rfl
  have hix : Lib.indexByte s.data.toList (List.headD (⟨#[45]⟩ : ByteArray).data.toList 0) = Lib.indexByte (L s) 45 := rfl
  rw [hix, hsep]
  rcases cutL_index (L s) with ⟨h1, h2⟩ | ⟨i, h1, h2, h3⟩
  · rw [h1, h2, if_neg (by decide), Option.bind_some]
    simp only [mkB_L]
    rfl
  · have hw : wrap64 ((i : Int) + (1 : Nat)) = ((i + 1 : Nat) : Int) := w_succ i (by omega)
    rw [h1, h3, hw, if_pos (by omega), if_pos (by omega), if_pos (by omega), if_pos (by omega), if_pos (by omega), Option.bind_some]
    simp only [Int.toNat_natCast]
    congr 1
    refine Prod.ext ?_ (Prod.ext ?_ rfl)
    · refine L_inj ?_
      rw [L_extract, List.drop_zero, Nat.sub_zero]; rfl
    · refine L_inj ?_
      rw [L_extract, List.take_of_length_le (by rw [List.length_drop]; omega)]; rfl
theorem cutL_sizes (l : List UInt8) : (cutL l).1.length ≤ l.length ∧ (cutL l).2.1.length ≤ l.length := by
  rcases cutL_index l with ⟨-, h⟩ | ⟨i, -, h2, h⟩
  · rw [h]; simp
  · rw [h]; simp only [List.length_take, List.length_drop]; omega

/-! ### versions -/
structure Ver where
  a : List UInt8
  b : List UInt8
  c : List UInt8
  p : List (List UInt8)
def coreL (l : List UInt8) : Option (List UInt8 × List UInt8 × List UInt8) := match partsL 46 l with
  | [a, b, c] => if numL a && numL b && numL c then some (a, b, c) else none
  | _ => none
def splitC (core pre : List UInt8) (has : Bool) : Option Ver := match coreL core with
  | some (a, b, c) => if has then (if (partsL 46 pre).all wordL then some ⟨a, b, c, partsL 46 pre⟩ else none) else some ⟨a, b, c, []⟩
  | none => none
def splitL : List UInt8 → Option Ver
  | [] => none
  | v :: t => if v = 118 then splitC (cutL t).1 (cutL t).2.1 (cutL t).2.2 else none
theorem splitL_cons (v : UInt8) (t : List UInt8) : splitL (v :: t) = if v = 118 then splitC (cutL t).1 (cutL t).2.1 (cutL t).2.2 else none := rfl
def verR : Option Ver → ByteArray × ByteArray × ByteArray × List ByteArray × Int
  | some v => (mkB v.a, mkB v.b, mkB v.c, v.p.map mkB, 0)
  | none => (⟨#[]⟩, ⟨#[]⟩, ⟨#[]⟩, [], 1)
theorem Split_loop (x : List ByteArray) (a b c : ByteArray) (p : List ByteArray) (hx : x.length ≤ 1000000001) (hm : ∀ s, s ∈ x → s.size ≤ 1000000000) (d : Nat) : ∀ i : Nat, i + d = x.length →
    Ev (fun k => version_Split.l0 k x x.length i a b c p) (if (x.drop i).all fun s => wordL (L s) then (a, b, c, p, 0) else (⟨#[]⟩, ⟨#[]⟩, ⟨#[]⟩, [], 1)) := by
  induction d with
  | zero =>
    intro i hi
    refine ev_step (fun k => by rw [version_Split.l0]) ?_
    refine ev_neg (by omega) (ev_now ?_)
    rw [List.drop_eq_nil_of_le (by omega)]; rfl
  | succ d ih =>
    intro i hi
    have hil : i < x.length := by omega
    refine ev_step (fun k => by rw [version_Split.l0]) ?_
    refine ev_pos (by omega) (ev_pos (by omega) (ev_pos (by omega) ?_))
    rw [rdOf_at _ x i hil, w_succ i (by omega), List.drop_eq_getElem_cons hil, List.all_cons]
    refine ev_bind (word_ev _ (hm _ (List.getElem_mem _))) ?_
    refine ev_ite (fun h => ?_) (fun h => ?_)
    · rw [h, Bool.true_and]
      exact ih (i + 1) (by omega)
    · have h' : wordL (L x[i]) = false := by simpa using h
      rw [h', Bool.false_and]
      exact ev_now rfl
theorem partsB_mk (c : UInt8) (l : List UInt8) : partsB c (mkB l) = (partsL c l).map mkB := rfl
theorem HasPrefix_v (s : ByteArray) : strings_HasPrefix.f s (⟨#[118]⟩ : ByteArray) = some (match L s with | [] => false | b :: _ => b == 118) := by
  have sz := L_size s
  unfold strings_HasPrefix.f stringslite_HasPrefix.f
  have h1 : (⟨#[118]⟩ : ByteArray).size = 1 := rfl
  rw [h1]
  cases hL : L s with
  | nil =>
    rw [hL] at sz
    simp only [List.length_nil] at sz
    rw [if_neg (by omega)]; rfl
  | cons b l =>
    rw [hL] at sz
    simp only [List.length_cons] at sz
    rw [if_pos (by omega), if_pos (by omega), if_pos (by omega), Option.bind_some]
    congr 1
    have : (s.extract 0 ((1 : Nat) : Int).toNat).toList = [b] := by
      rw [toList_L, L_extract, hL]; rfl
    rw [this]
    have h2 : (⟨#[118]⟩ : ByteArray).toList = [118] := by rw [toList_L]; rfl
    rw [h2]
    simp
theorem Split_ev (s : ByteArray) (hs : s.size ≤ 1000000) : Ev (fun k => version_Split.f k s) (verR (splitL (L s))) := by
  have sz := L_size s
  unfold version_Split.f
  rw [HasPrefix_v]
  refine ev_some ?_
  cases hL : L s with
  | nil => exact ev_neg (by decide) (ev_now rfl)
  | cons v t =>
    rw [hL] at sz
    simp only [List.length_cons] at sz
    by_cases hv : v = 118
    case neg => exact ev_neg (by simp [hv]) (ev_now (by rw [splitL_cons, if_neg hv]; rfl))
    refine ev_pos (by simp [hv]) (ev_pos (by omega) ?_)
    have ht : s.extract 1 s.size = mkB t := by
      refine L_inj ?_
      rw [L_extract, hL, L_mkB]
      show List.take _ t = t
      exact List.take_of_length_le (by omega)
    rw [ht, Cut_eq _ (by rw [mkB_size]; omega), L_mkB]
    simp only [Option.bind_some]
    rw [splitL_cons, if_pos hv]
    have hcs := cutL_sizes t
    generalize cutL t = ct at *
    obtain ⟨core, pre, has⟩ := ct
    simp only at hcs ⊢
    rw [Parts_eq _ 46 (by decide) (by decide) (by rw [mkB_size]; omega)]
    simp only [Option.bind_some]
    have h46 : (46 : Int).toNat.toUInt8 = 46 := rfl
    rw [h46, partsB_mk]
    have hcl := (partsL_length 46 core).1
    have hple := part_le 46 core
    have hbad : ∀ (x : ByteArray) (y : Bool) (z : List ByteArray), Ev (fun k => version_Split.j0 k x y z true) (verR none) := by
      intro x y z
      refine ev_step (fun k => by rw [version_Split.j0]) ?_
      exact ev_pos rfl (ev_now rfl)
    unfold splitC coreL
    rcases hpl : partsL 46 core with _ | ⟨a, _ | ⟨b, _ | ⟨c, _ | ⟨d, r⟩⟩⟩⟩
    · exact ev_neg (by decide) (hbad _ _ _)
    · exact ev_neg (by simp) (hbad _ _ _)
    · exact ev_neg (by simp) (hbad _ _ _)
    · rw [hpl] at hple
      have la := hple a (by simp)
      have lb := hple b (by simp)
      have lc := hple c (by simp)
      refine ev_pos rfl (ev_pos (by simp) ?_)
      have r0 : rdOf ByteArray.empty (List.map mkB [a, b, c]) 0 = mkB a := rfl
      have r1 : rdOf ByteArray.empty (List.map mkB [a, b, c]) 1 = mkB b := rfl
      have r2 : rdOf ByteArray.empty (List.map mkB [a, b, c]) 2 = mkB c := rfl
      rw [r0, r1, r2, number_May_eq _ (by rw [mkB_size]; omega), number_May_eq _ (by rw [mkB_size]; omega), number_May_eq _ (by rw [mkB_size]; omega), L_mkB, L_mkB, L_mkB]
      simp only [Option.bind_some]
      cases numL a with
      | false => exact ev_neg (by decide) (hbad _ _ _)
      | true =>
        refine ev_pos rfl (ev_pos (by simp) ?_)
        cases numL b with
        | false => exact ev_neg (by decide) (hbad _ _ _)
        | true =>
          refine ev_pos rfl (ev_pos (by simp) ?_)
          cases numL c with
          | false => exact hbad _ _ _
          | true =>
            refine ev_step (fun k => by rw [version_Split.j0]) ?_
            refine ev_neg (by decide) (ev_pos (by simp) (ev_pos (by simp) (ev_pos (by simp) ?_)))
            rw [r0, r1, r2]
            cases has with
            | false => exact ev_neg (by decide) (ev_now rfl)
            | true =>
              refine ev_pos rfl ?_
              rw [Parts_eq _ 46 (by decide) (by decide) (by rw [mkB_size]; omega), h46, partsB_mk]
              refine ev_some ?_
              have hpl2 := (partsL_length 46 pre).1
              have hp2 := part_le 46 pre
              have h := Split_loop ((partsL 46 pre).map mkB) (mkB a) (mkB b) (mkB c) ((partsL 46 pre).map mkB) (by rw [List.length_map]; omega) (fun x hx => by
                obtain ⟨y, hy, rfl⟩ := List.mem_map.1 hx
                have := hp2 y hy
                rw [mkB_size]; omega) ((partsL 46 pre).map mkB).length 0 (by omega)
              have he : (((partsL 46 pre).map mkB).drop 0).all (fun s => wordL (L s)) = (partsL 46 pre).all wordL := by
                rw [List.drop_zero, List.all_map]; rfl
              rw [he] at h
              simp only [Bool.and_self, if_true]
              revert h
              cases (partsL 46 pre).all wordL <;> exact fun h => h
    · exact ev_neg (by simp; omega) (hbad _ _ _)
def verOk (l : List UInt8) : Bool := (splitL l).isSome
theorem verMay_ev (s : ByteArray) (hs : s.size ≤ 1000000) : Ev (fun k => version_May.f k s) (verOk (L s)) := by
  unfold version_May.f
  refine ev_bind (Split_ev s hs) (ev_now ?_)
  unfold verOk
  cases splitL (L s) <;> rfl

/-! ### orders -/
structure Tot {α : Type} (c : α → α → Int) : Prop where
  flip : ∀ a b, c b a = - c a b
  zero : ∀ a b, c a b = 0 ↔ a = b
  trans : ∀ a b d, c a b ≤ 0 → c b d ≤ 0 → c a d ≤ 0
theorem Tot.strictL {α : Type} {c : α → α → Int} (h : Tot c) {a b d : α} (h1 : c a b < 0) (h2 : c b d ≤ 0) : c a d < 0 := by
  have h3 := h.trans a b d (by omega) h2
  rcases Int.lt_or_eq_of_le h3 with h4 | h4
  · exact h4
  · have e := (h.zero a d).1 h4
    subst e
    have := h.flip a b
    omega
theorem tot_cmpL : Tot cmpL where
  flip := cmpL_flip
  zero := fun _ _ => cmpL_zero
  trans := fun a b d h1 h2 => cmpL_le.2 (List.le_trans (cmpL_le.1 h1) (cmpL_le.1 h2))
theorem cmpI_flip (a b : Int) : cmpI b a = - cmpI a b := by unfold cmpI; split <;> split <;> first | omega | (split <;> omega) | rfl
theorem cmpI_zero (a b : Int) : cmpI a b = 0 ↔ a = b := by unfold cmpI; split <;> (try split) <;> omega
theorem cmpI_le (a b : Int) : cmpI a b ≤ 0 ↔ a ≤ b := by unfold cmpI; split <;> (try split) <;> omega
def lexC {α β : Type} (c1 : α → α → Int) (c2 : β → β → Int) (x y : α × β) : Int := if c1 x.1 y.1 = 0 then c2 x.2 y.2 else c1 x.1 y.1
theorem tot_lex {α β : Type} {c1 : α → α → Int} {c2 : β → β → Int} (h1 : Tot c1) (h2 : Tot c2) : Tot (lexC c1 c2) where
  flip := by
    intro x y
    unfold lexC
    have f1 := h1.flip x.1 y.1
    have f2 := h2.flip x.2 y.2
    by_cases h : c1 x.1 y.1 = 0
    · rw [if_pos h, if_pos (by omega)]; exact f2
    · rw [if_neg h, if_neg (by omega)]; exact f1
  zero := by
    intro x y
    unfold lexC
    by_cases h : c1 x.1 y.1 = 0
    · rw [if_pos h, h2.zero]
      exact ⟨fun e => Prod.ext ((h1.zero _ _).1 h) e, fun e => by rw [e]⟩
    · rw [if_neg h]
      exact ⟨fun e => absurd e h, fun e => absurd ((h1.zero _ _).2 (by rw [e])) h⟩
  trans := by
    intro x y z e1 e2
    unfold lexC at *
    by_cases ha : c1 x.1 y.1 = 0
    · rw [if_pos ha] at e1
      have hxy := (h1.zero _ _).1 ha
      rw [hxy]
      by_cases hb : c1 y.1 z.1 = 0
      · rw [if_pos hb] at e2 ⊢
        exact h2.trans _ _ _ e1 e2
      · rw [if_neg hb] at e2 ⊢
        exact e2
    · rw [if_neg ha] at e1
      by_cases hb : c1 y.1 z.1 = 0
      · have hyz := (h1.zero _ _).1 hb
        rw [← hyz, if_neg ha]; exact e1
      · rw [if_neg hb] at e2
        have := h1.strictL (a := x.1) (b := y.1) (d := z.1) (by omega) e2
        rw [if_neg (by omega)]; omega
def listC {α : Type} (c : α → α → Int) : List α → List α → Int
  | [], [] => 0
  | [], _ :: _ => -1
  | _ :: _, [] => 1
  | a :: x, b :: y => if c a b = 0 then listC c x y else c a b
theorem tot_list {α : Type} {c : α → α → Int} (h : Tot c) : Tot (listC c) where
  flip := by
    intro x
    induction x with
    | nil => intro y; cases y <;> rfl
    | cons a x ih =>
      intro y
      cases y with
      | nil => rfl
      | cons b y =>
        unfold listC
        have f := h.flip a b
        by_cases e : c a b = 0
        · rw [if_pos e, if_pos (by omega)]; exact ih y
        · rw [if_neg e, if_neg (by omega)]; exact f
  zero := by
    intro x
    induction x with
    | nil => intro y; cases y <;> simp [listC]
    | cons a x ih =>
      intro y
      cases y with
      | nil => simp [listC]
      | cons b y =>
        unfold listC
        by_cases e : c a b = 0
        · rw [if_pos e, ih y, (h.zero a b).1 e]; simp
        · rw [if_neg e]
          exact ⟨fun h0 => absurd h0 e, fun h0 => absurd ((h.zero a b).2 (List.cons.inj h0).1) e⟩
  trans := by
    intro x
    induction x with
    | nil => intro y z h1 h2; cases z <;> simp [listC]
    | cons a x ih =>
      intro y z h1 h2
      cases y with
      | nil => simp [listC] at h1
      | cons b y =>
        cases z with
        | nil => simp [listC] at h2
        | cons d z =>
          unfold listC at h1 h2 ⊢
          by_cases e1 : c a b = 0
          · rw [if_pos e1] at h1
            have hab := (h.zero a b).1 e1
            rw [hab]
            by_cases e2 : c b d = 0
            · rw [if_pos e2] at h2 ⊢
              exact ih y z h1 h2
            · rw [if_neg e2] at h2 ⊢; exact h2
          · rw [if_neg e1] at h1
            by_cases e2 : c b d = 0
            · have hbd := (h.zero b d).1 e2
              rw [← hbd, if_neg e1]; exact h1
            · rw [if_neg e2] at h2
              have := h.strictL (a := a) (b := b) (d := d) (by omega) h2
              rw [if_neg (by omega)]; omega
theorem tot_numC : Tot numC where
  flip := by
    intro a b
    unfold numC
    have f1 := cmpI_flip (a.length : Int) b.length
    have f2 := cmpL_flip a b
    by_cases h : cmpI (a.length : Int) b.length = 0
    · rw [if_pos h, if_pos (by omega)]; exact f2
    · rw [if_neg h, if_neg (by omega)]; exact f1
  zero := by
    intro a b
    unfold numC
    by_cases h : cmpI (a.length : Int) b.length = 0
    · rw [if_pos h, cmpL_zero]
    · rw [if_neg h]
      exact ⟨fun e => absurd e h, fun e => absurd ((cmpI_zero _ _).2 (by rw [e])) h⟩
  trans := by
    intro a b d h1 h2
    unfold numC at *
    have z1 := cmpI_zero (a.length : Int) b.length
    have z2 := cmpI_zero (b.length : Int) d.length
    have z3 := cmpI_zero (a.length : Int) d.length
    have l1 := cmpI_le (a.length : Int) b.length
    have l2 := cmpI_le (b.length : Int) d.length
    have l3 := cmpI_le (a.length : Int) d.length
    by_cases e1 : cmpI (a.length : Int) b.length = 0
    · rw [if_pos e1] at h1
      have e1' := z1.1 e1
      by_cases e2 : cmpI (b.length : Int) d.length = 0
      · rw [if_pos e2] at h2
        have e2' := z2.1 e2
        rw [if_pos (z3.2 (by omega))]
        exact tot_cmpL.trans _ _ _ h1 h2
      · rw [if_neg e2] at h2
        have h2' := l2.1 h2
        rw [if_neg (fun e => e2 (z2.2 (by have := z3.1 e; omega)))]
        exact l3.2 (by omega)
    · rw [if_neg e1] at h1
      have h1' := l1.1 h1
      by_cases e2 : cmpI (b.length : Int) d.length = 0
      · have e2' := z2.1 e2
        rw [if_neg (fun e => e1 (z1.2 (by have := z3.1 e; omega)))]
        exact l3.2 (by omega)
      · rw [if_neg e2] at h2
        have h2' := l2.1 h2
        rw [if_neg (fun e => e1 (z1.2 (by have := z3.1 e; omega)))]
        exact l3.2 (by omega)
theorem tot_words : Tot wordsL where
  flip := by
    intro a b
    unfold wordsL
    cases numL a <;> cases numL b
    · exact cmpL_flip a b
    · rfl
    · rfl
    · exact tot_numC.flip a b
  zero := by
    intro a b
    unfold wordsL
    cases ha : numL a <;> cases hb : numL b
    · exact cmpL_zero
    · simp; intro e; rw [e, hb] at ha; cases ha
    · simp; intro e; rw [e, hb] at ha; cases ha
    · exact tot_numC.zero a b
  trans := by
    intro a b d h1 h2
    unfold wordsL at *
    cases ha : numL a <;> cases hb : numL b <;> cases hd : numL d <;> simp only [ha, hb, hd, if_true, Bool.false_eq_true, if_false] at h1 h2 ⊢
    · exact tot_cmpL.trans _ _ _ h1 h2
    · omega
    · omega
    · omega
    · omega
    · omega
    · omega
    · exact tot_numC.trans _ _ _ h1 h2
/-- The words behind: none comes last. -/
def preV (x y : List (List UInt8)) : Int := if x.isEmpty || y.isEmpty then cmpI y.length x.length else listC wordsL x y
theorem tot_preV : Tot preV where
  flip := by
    intro x y
    unfold preV
    have f1 := cmpI_flip (y.length : Int) x.length
    have f2 := (tot_list tot_words).flip x y
    cases x <;> cases y <;> first | exact f1 | exact f2
  zero := by
    intro x y
    unfold preV
    have f2 := (tot_list tot_words).zero x y
    cases x with
    | nil =>
      cases y with
      | nil => exact ⟨fun _ => rfl, fun _ => rfl⟩
      | cons b y => first | (simp [cmpI]; done) | (simp [cmpI]; omega)
    | cons a x =>
      cases y with
      | nil => first | (simp [cmpI]; done) | (simp [cmpI]; omega)
      | cons b y => exact f2
  trans := by
    intro x y z h1 h2
    unfold preV at *
    cases x with
    | nil =>
      cases y with
      | nil => exact h2
      | cons b y =>
        have h1' : cmpI ((b :: y).length : Int) (([] : List (List UInt8)).length : Int) ≤ 0 := h1
        exact absurd ((cmpI_le _ _).1 h1') (by simp only [List.length_cons, List.length_nil]; omega)
    | cons a x =>
      cases z with
      | nil =>
        show cmpI (([] : List (List UInt8)).length : Int) ((a :: x).length : Int) ≤ 0
        exact (cmpI_le _ _).2 (by simp only [List.length_cons, List.length_nil]; omega)
      | cons d z =>
        cases y with
        | nil =>
          have h2' : cmpI ((d :: z).length : Int) (([] : List (List UInt8)).length : Int) ≤ 0 := h2
          exact absurd ((cmpI_le _ _).1 h2') (by simp only [List.length_cons, List.length_nil]; omega)
        | cons b y => exact (tot_list tot_words).trans _ _ _ h1 h2
def verP (v : Ver) : List UInt8 × List UInt8 × List UInt8 × List (List UInt8) := (v.a, v.b, v.c, v.p)
def verC (x y : Ver) : Int := lexC numC (lexC numC (lexC numC preV)) (verP x) (verP y)
theorem tot_ver : Tot verC where
  flip := fun x y => (tot_lex tot_numC (tot_lex tot_numC (tot_lex tot_numC tot_preV))).flip (verP x) (verP y)
  zero := fun x y => by
    refine ((tot_lex tot_numC (tot_lex tot_numC (tot_lex tot_numC tot_preV))).zero (verP x) (verP y)).trans ?_
    constructor
    · intro h
      obtain ⟨a, b, c, p⟩ := x
      obtain ⟨a', b', c', p'⟩ := y
      simp only [verP, Prod.mk.injEq] at h
      obtain ⟨rfl, rfl, rfl, rfl⟩ := h
      rfl
    · intro h; rw [h]
  trans := fun x y z h1 h2 => (tot_lex tot_numC (tot_lex tot_numC (tot_lex tot_numC tot_preV))).trans (verP x) (verP y) (verP z) h1 h2
theorem verC_eq (x y : Ver) : verC x y = if numC x.a y.a = 0 then (if numC x.b y.b = 0 then (if numC x.c y.c = 0 then preV x.p y.p else numC x.c y.c) else numC x.b y.b) else numC x.a y.a := rfl
theorem verC_orL (x y : Ver) (h : ¬ (x.a = y.a ∧ x.b = y.b ∧ x.c = y.c)) : verC x y = orL [numC x.a y.a, numC x.b y.b, numC x.c y.c] := by
  rw [verC_eq]
  simp only [orL]
  by_cases h1 : numC x.a y.a = 0
  · rw [if_pos h1, if_pos h1]
    by_cases h2 : numC x.b y.b = 0
    · rw [if_pos h2, if_pos h2]
      by_cases h3 : numC x.c y.c = 0
      · exact absurd ⟨(tot_numC.zero _ _).1 h1, (tot_numC.zero _ _).1 h2, (tot_numC.zero _ _).1 h3⟩ h
      · rw [if_neg h3, if_neg h3]
    · rw [if_neg h2, if_neg h2]
  · rw [if_neg h1, if_neg h1]
theorem verC_pre (x y : Ver) (h : x.a = y.a ∧ x.b = y.b ∧ x.c = y.c) : verC x y = preV x.p y.p := by
  rw [verC_eq]
  rw [if_pos ((tot_numC.zero _ _).2 h.1), if_pos ((tot_numC.zero _ _).2 h.2.1), if_pos ((tot_numC.zero _ _).2 h.2.2)]

/-! ### Cmp -/
theorem Cmp_loop (x y : List ByteArray) (a b c a' b' c' : ByteArray) (hx : x.length ≤ 1000000001) (hy : y.length ≤ 1000000001) (hmx : ∀ s, s ∈ x → s.size ≤ 1000000000) (hmy : ∀ s, s ∈ y → s.size ≤ 1000000000) (d : Nat) : ∀ i : Nat, i + d = min x.length y.length →
    Ev (fun k => version_Cmp.l0 k ((min x.length y.length : Nat) : Int) i a b c x a' b' c' y) (listC wordsL ((x.map L).drop i) ((y.map L).drop i), 0) := by
  induction d with
  | zero =>
    intro i hi
    refine ev_step (fun k => by rw [version_Cmp.l0]) ?_
    refine ev_neg (by omega) ?_
    rw [Compare_eq]
    refine ev_now ?_
    congr 1
    have hxl : (x.map L).length = x.length := List.length_map _
    have hyl : (y.map L).length = y.length := List.length_map _
    unfold cmpI
    rcases Nat.lt_trichotomy x.length y.length with h | h | h
    · rw [if_pos (by omega), List.drop_eq_nil_of_le (by omega), List.drop_eq_getElem_cons (by omega)]; rfl
    · rw [if_neg (by omega), if_neg (by omega), List.drop_eq_nil_of_le (by omega), List.drop_eq_nil_of_le (by omega)]; rfl
    · rw [if_neg (by omega), if_pos (by omega), show (y.map L).drop i = [] from List.drop_eq_nil_of_le (by omega), List.drop_eq_getElem_cons (by omega)]; rfl
  | succ d ih =>
    intro i hi
    have hix : i < x.length := by omega
    have hiy : i < y.length := by omega
    refine ev_step (fun k => by rw [version_Cmp.l0]) ?_
    refine ev_pos (by omega) (ev_pos (by omega) (ev_pos (by omega) (ev_pos (by omega) ?_)))
    rw [rdOf_at _ x i hix, rdOf_at _ y i hiy, w_succ i (by omega), List.drop_eq_getElem_cons (l := x.map L) (by rw [List.length_map]; exact hix), List.drop_eq_getElem_cons (l := y.map L) (by rw [List.length_map]; exact hiy), List.getElem_map, List.getElem_map, listC]
    refine ev_bind (words_ev _ _ (hmx _ (List.getElem_mem _)) (hmy _ (List.getElem_mem _))) ?_
    refine ev_ite (fun h => ?_) (fun h => ?_)
    · rw [if_pos h]; exact ih (i + 1) (by omega)
    · rw [if_neg h]; exact ev_now rfl
theorem coreL_some {l a b c : List UInt8} (h : coreL l = some (a, b, c)) : partsL 46 l = [a, b, c] ∧ numL a = true ∧ numL b = true ∧ numL c = true := by
  unfold coreL at h
  split at h
  · rename_i a' b' c' hp
    split at h
    · rename_i hn
      simp only [Option.some.injEq, Prod.mk.injEq] at h
      obtain ⟨rfl, rfl, rfl⟩ := h
      simp only [Bool.and_eq_true] at hn
      exact ⟨hp, hn.1.1, hn.1.2, hn.2⟩
    · cases h
  · cases h
theorem splitL_some {l : List UInt8} {v : Ver} (h : splitL l = some v) : ∃ t, l = 118 :: t ∧ partsL 46 (cutL t).1 = [v.a, v.b, v.c] ∧ numL v.a = true ∧ numL v.b = true ∧ numL v.c = true ∧ v.p.all wordL = true ∧ (if (cutL t).2.2 then v.p = partsL 46 (cutL t).2.1 else v.p = []) := by
  cases l with
  | nil => cases h
  | cons b t =>
    rw [splitL_cons] at h
    unfold splitC at h
    split at h
    · rename_i hb
      split at h
      · rename_i a b c hc
        obtain ⟨h1, h2, h3, h4⟩ := coreL_some hc
        split at h
        · rename_i hh
          split at h
          · rename_i hw
            obtain rfl := Option.some.inj h
            exact ⟨t, by rw [hb], h1, h2, h3, h4, hw, by rw [if_pos hh]⟩
          · cases h
        · rename_i hh
          obtain rfl := Option.some.inj h
          exact ⟨t, by rw [hb], h1, h2, h3, h4, rfl, by rw [if_neg hh]⟩
      · cases h
    · cases h
theorem splitL_sizes {l : List UInt8} {v : Ver} (h : splitL l = some v) : v.a.length ≤ l.length ∧ v.b.length ≤ l.length ∧ v.c.length ≤ l.length ∧ v.p.length ≤ l.length + 1 ∧ ∀ x, x ∈ v.p → x.length ≤ l.length := by
  obtain ⟨t, rfl, hp, -, -, -, -, hq⟩ := splitL_some h
  have hs := cutL_sizes t
  have hpl := part_le 46 (cutL t).1
  rw [hp] at hpl
  have h1 := hpl v.a (by simp)
  have h2 := hpl v.b (by simp)
  have h3 := hpl v.c (by simp)
  simp only [List.length_cons]
  refine ⟨by omega, by omega, by omega, ?_⟩
  split at hq
  · rw [hq]
    have := (partsL_length 46 (cutL t).2.1).1
    refine ⟨by omega, fun x hx => ?_⟩
    have := part_le 46 _ x hx
    omega
  · rw [hq]; simp
def cmpR (x y : Option Ver) : Int × Int := match x, y with
  | some v, some w => (verC v w, 0)
  | _, _ => (0, 1)
theorem map_L_mkB (l : List (List UInt8)) : (l.map mkB).map L = l := by
  rw [List.map_map]
  exact List.map_id'' (fun _ => rfl) _
theorem mkB_toList (l : List UInt8) : (mkB l).toList = l := by rw [toList_L, L_mkB]
theorem verCmp_ev (s t : ByteArray) (hs : s.size ≤ 1000000) (ht : t.size ≤ 1000000) : Ev (fun k => version_Cmp.f k s t) (cmpR (splitL (L s)) (splitL (L t))) := by
  have hbad : ∀ (a b c : ByteArray) (p : List ByteArray) (a' b' c' : ByteArray) (p' : List ByteArray), Ev (fun k => version_Cmp.j0 k true a b c p a' b' c' p') (0, 1) := by
    intro a b c p a' b' c' p'
    refine ev_step (fun k => by rw [version_Cmp.j0]) ?_
    exact ev_pos rfl (ev_now rfl)
  unfold version_Cmp.f
  refine ev_bind (Split_ev s hs) (ev_bind (Split_ev t ht) ?_)
  cases hx : splitL (L s) with
  | none => exact ev_neg (by decide) (hbad _ _ _ _ _ _ _ _)
  | some v =>
    cases hy : splitL (L t) with
    | none => exact ev_pos rfl (hbad _ _ _ _ _ _ _ _)
    | some w =>
      refine ev_pos rfl ?_
      have sv := splitL_sizes hx
      have sw := splitL_sizes hy
      rw [L_size] at sv sw
      obtain ⟨_, -, -, nv1, nv2, nv3, -, -⟩ := splitL_some hx
      obtain ⟨_, -, -, nw1, nw2, nw3, -, -⟩ := splitL_some hy
      refine ev_step (fun k => by rw [version_Cmp.j0]) ?_
      refine ev_neg (by simp [verR]) ?_
      simp only [verR, cmpR, mkB_toList]
      refine ev_ite (fun h => ?_) (fun h => ?_)
      · rw [verC_orL v w (by
          intro ⟨e1, e2, e3⟩
          rw [e1, e2, e3] at h
          simp at h)]
        have g1 := numbers_ev (mkB v.a) (mkB w.a) (by rw [mkB_size]; omega) (by rw [mkB_size]; omega)
        have g2 := numbers_ev (mkB v.b) (mkB w.b) (by rw [mkB_size]; omega) (by rw [mkB_size]; omega)
        have g3 := numbers_ev (mkB v.c) (mkB w.c) (by rw [mkB_size]; omega) (by rw [mkB_size]; omega)
        simp only [L_mkB, numbersL, nv1, nv2, nv3, nw1, nw2, nw3, Bool.and_self, if_true] at g1 g2 g3
        exact ev_bind g1 (ev_bind g2 (ev_bind g3 (ev_bind (Or_ev _ (by simp)) (ev_now rfl))))
      · have hc : v.a = w.a ∧ v.b = w.b ∧ v.c = w.c := by
          simpa using h
        rw [verC_pre v w hc]
        have hj1 : ∀ bb : Bool, bb = (v.p.isEmpty || w.p.isEmpty) → Ev (fun k => version_Cmp.j1 k bb (mkB v.a) (mkB v.b) (mkB v.c) (v.p.map mkB) (mkB w.a) (mkB w.b) (mkB w.c) (w.p.map mkB)) (preV v.p w.p, 0) := by
          intro bb hbb
          refine ev_step (fun k => by rw [version_Cmp.j1]) ?_
          rw [Compare_eq, List.length_map, List.length_map]
          unfold preV
          rw [← hbb]
          cases bb with
          | true => exact ev_pos rfl (ev_now rfl)
          | false =>
            refine ev_neg (by decide) ?_
            rw [mn_eq]
            have h := Cmp_loop (v.p.map mkB) (w.p.map mkB) (mkB v.a) (mkB v.b) (mkB v.c) (mkB w.a) (mkB w.b) (mkB w.c) (by rw [List.length_map]; omega) (by rw [List.length_map]; omega) (fun x hx => by
              obtain ⟨y, hy, rfl⟩ := List.mem_map.1 hx
              have := sv.2.2.2.2 y hy
              rw [mkB_size]; omega) (fun x hx => by
              obtain ⟨y, hy, rfl⟩ := List.mem_map.1 hx
              have := sw.2.2.2.2 y hy
              rw [mkB_size]; omega) (min (v.p.map mkB).length (w.p.map mkB).length) 0 (by omega)
            rw [map_L_mkB, map_L_mkB, List.drop_zero, List.drop_zero, List.length_map, List.length_map] at h
            exact h
        refine ev_ite (fun h0 => hj1 _ ?_) (fun h0 => hj1 _ ?_)
        · rw [List.length_map] at h0
          have : v.p = [] := List.eq_nil_of_length_eq_zero (by omega)
          rw [this]; rfl
        · rw [List.length_map] at h0
          have : v.p.isEmpty = false := by
            cases hv : v.p with
            | nil => rw [hv] at h0; exact absurd rfl h0
            | cons => rfl
          rw [this, Bool.false_or, List.length_map]
          cases w.p with
          | nil => rfl
          | cons x l => simp; omega

/-! ### put together -/
def joinV (v : Ver) : List UInt8 := 118 :: ((v.a ++ 46 :: (v.b ++ 46 :: v.c)) ++ (if v.p.isEmpty then [] else 45 :: joinL 46 v.p))
def verOkV (v : Ver) : Bool := numL v.a && numL v.b && numL v.c && v.p.all wordL
theorem cutL_back : ∀ l : List UInt8, (cutL l).1 ++ (if (cutL l).2.2 then 45 :: (cutL l).2.1 else []) = l
  | [] => rfl
  | b :: l => by
    have ih := cutL_back l
    rw [cutL]
    by_cases h : b = 45
    · rw [if_pos h, h]; rfl
    · rw [if_neg h]
      simp only [List.cons_append]
      rw [ih]
theorem core_of {l a b c : List UInt8} (h : partsL 46 l = [a, b, c]) : l = a ++ 46 :: (b ++ 46 :: c) := by
  have := joinL_parts 46 l
  rw [h] at this
  exact this.symm
theorem join_of_split {l : List UInt8} {v : Ver} (h : splitL l = some v) : joinV v = l := by
  obtain ⟨t, rfl, hp, -, -, -, -, hq⟩ := splitL_some h
  have hcore := core_of hp
  have hback := cutL_back t
  unfold joinV
  rw [← hcore]
  congr 1
  conv => rhs; rw [← hback]
  cases hf : (cutL t).2.2 with
  | true =>
    rw [hf, if_pos rfl] at hq
    have hne : v.p.isEmpty = false := by
      rw [hq]
      have := partsL_ne 46 (cutL t).2.1
      cases hx : partsL 46 (cutL t).2.1 with
      | nil => exact absurd hx this
      | cons => rfl
    rw [hne, hq, joinL_parts]; rfl
  | false =>
    rw [hf, if_neg (by decide)] at hq
    rw [hq]; rfl
theorem splitL_inj {l m : List UInt8} {v : Ver} (h : splitL l = some v) (h' : splitL m = some v) : l = m := (join_of_split h).symm.trans (join_of_split h')
end Go.Proofs.YtomjppafgalaoaaDoor.Q

/-
  What the printed functions of layer 4 (path) and its reference come to.
-/
namespace Go.Proofs.YtomjppafgalaoaaDoor.Q
open Go.RowKit Go.Proofs.YtomjppafgalaoaaDoor.P Go.Proofs.YtomjppafgalaoaaDoorB Go.Proofs.YtomjppafgalaoaaDoorW.PrintWords Go.Proofs.YtomjppafgalaoaaDoorW.PrintLast Go.Proofs.YtomjppafgalaoaaDoorW.PrintMore
set_option linter.unusedSimpArgs false

/-- Is a text a path? -/
def isPath (l : List UInt8) : Bool := (partsL 47 l).all elemL
def withinL (p q : List UInt8) : Bool := isPath p && isPath q && (p ++ [47]).isPrefixOf (q ++ [47])

theorem elem_eq (s : ByteArray) (hs : s.size ≤ 1000000000) : path_element.f s = some (elemL (L s)) := by
  unfold path_element.f
  rw [if_pos hs]
  rfl
theorem Elements_loop (x l : List ByteArray) (hl : l.length ≤ 1000000001) (hm : ∀ s, s ∈ l → s.size ≤ 1000000000) (d : Nat) : ∀ i : Nat, i + d = l.length →
    Ev (fun k => path_Elements.l0 k x l l.length i) (if (l.drop i).all fun s => elemL (L s) then (x, 0) else ([], 1)) := by
  induction d with
  | zero =>
    intro i hi
    refine ev_step (fun k => by rw [path_Elements.l0]) ?_
    refine ev_neg (by omega) (ev_now ?_)
    rw [List.drop_eq_nil_of_le (by omega)]; rfl
  | succ d ih =>
    intro i hi
    have hil : i < l.length := by omega
    refine ev_step (fun k => by rw [path_Elements.l0]) ?_
    refine ev_pos (by omega) (ev_pos (by omega) (ev_pos (by omega) ?_))
    rw [rdOf_at _ l i hil, elem_eq _ (hm _ (List.getElem_mem _)), w_succ i (by omega), List.drop_eq_getElem_cons hil, List.all_cons]
    refine ev_some ?_
    refine ev_ite (fun h => ?_) (fun h => ?_)
    · rw [h, Bool.true_and]
      exact ih (i + 1) (by omega)
    · have h' : elemL (L l[i]) = false := by simpa using h
      rw [h', Bool.false_and]
      exact ev_now rfl
theorem Elements_ev (s : ByteArray) (hs : s.size ≤ 1000000000) : Ev (fun k => path_Elements.f k s) (if isPath (L s) then (partsB 47 s, 0) else ([], 1)) := by
  unfold path_Elements.f
  have hl := (partsL_length 47 (L s)).1
  have hz := L_size s
  rw [Parts_eq s 47 (by decide) (by decide) hs]
  refine ev_some ?_
  have h := Elements_loop (partsB 47 s) (partsB 47 s) (by rw [partsB_length]; omega) (fun p hp => by
    simp only [partsB, List.mem_map] at hp
    obtain ⟨q, hq, rfl⟩ := hp
    have := part_le 47 (L s) q hq
    rw [← L_size, L_mk]; omega) (partsB 47 s).length 0 (by omega)
  have he : ((partsB 47 s).drop 0).all (fun s => elemL (L s)) = isPath (L s) := by
    unfold isPath partsB
    rw [List.drop_zero, List.all_map]
    rfl
  rw [he] at h
  exact h
theorem May_ev (s : ByteArray) (hs : s.size ≤ 1000000000) : Ev (fun k => path_May.f k s) (isPath (L s)) := by
  unfold path_May.f
  refine ev_bind (Elements_ev s hs) (ev_now ?_)
  cases isPath (L s) <;> rfl


end Go.Proofs.YtomjppafgalaoaaDoor.Q

/-
  What the printed functions of layers 5 (node) and 12 (store) come to: a store is a list of pairs, in the order of their nodes.
-/
namespace Go.Proofs.YtomjppafgalaoaaDoor.Q
open Go.RowKit Go.Proofs.YtomjppafgalaoaaDoor.P Go.Proofs.YtomjppafgalaoaaDoorB Go.Proofs.YtomjppafgalaoaaDoorW.PrintWords Go.Proofs.YtomjppafgalaoaaDoorW.PrintLast Go.Proofs.YtomjppafgalaoaaDoorW.PrintMore
set_option linter.unusedSimpArgs false
set_option linter.unusedVariables false
abbrev Nd := S27
theorem nd_ext {x y : Nd} (h0 : x.f0 = y.f0) (h1 : x.f1 = y.f1) : x = y := by
  cases x; cases y; cases h0; cases h1; rfl
theorem rdN_at (l : List Nd) (i : Nat) (h : i < l.length) : rd_T27 l (i : Int) = l[i] := by
  simp [rd_T27, List.getD_eq_getElem?_getD, h]

/-! ### nodes -/
def nodeOk (n : Nd) : Bool := isPath (L n.f0) && verOk (L n.f1)
theorem nodeMay_ev (p v : ByteArray) (hp : p.size ≤ 1000000) (hv : v.size ≤ 1000000) : Ev (fun k => node_May.f k p v) (isPath (L p) && verOk (L v)) := by
  unfold node_May.f
  refine ev_bind (May_ev p (by omega)) ?_
  cases isPath (L p) with
  | false => exact ev_neg (by decide) (ev_now rfl)
  | true => exact ev_pos rfl (ev_last (verMay_ev v hv))
def fewN (n : Nd) : Nd := ⟨few n.f0, few n.f1⟩
def fewL (l : List Nd) : List Nd := (l.take 24).map fewN
def smN (n : Nd) : Prop := n.f0.size ≤ 400 ∧ n.f1.size ≤ 400
def smallL (l : List Nd) : Prop := ∀ n, n ∈ l → smN n
def okL (l : List Nd) : Prop := ∀ n, n ∈ l → nodeOk n = true
theorem few_small (l : List Nd) : smallL (fewL l) := by
  intro n hn
  obtain ⟨x, -, rfl⟩ := List.mem_map.1 hn
  exact ⟨few_size _, few_size _⟩
theorem fewL_len (l : List Nd) : (fewL l).length ≤ 24 := by unfold fewL; rw [List.length_map, List.length_take]; omega
theorem few5_loop (l : List Nd) (d : Nat) : ∀ (i : Nat) (p : List Nd), i + d = min l.length 24 → p.length = i → Ev (fun k => graftwoodlaw05_Few.l0 k l p i) (p ++ ((l.take 24).drop i).map fewN) := by
  induction d with
  | zero =>
    intro i p hi hp
    have hd : (l.take 24).drop i = [] := List.drop_eq_nil_of_le (by rw [List.length_take]; omega)
    rw [hd, List.map_nil, List.append_nil]
    refine ev_step (fun k => by rw [graftwoodlaw05_Few.l0]) ?_
    exact ev_ite (fun h => ev_neg (by omega) (ev_now rfl)) (fun _ => ev_now rfl)
  | succ d ih =>
    intro i p hi hp
    have hil : i < l.length := by omega
    refine ev_step (fun k => by rw [graftwoodlaw05_Few.l0]) ?_
    refine ev_pos (by omega) (ev_pos (by omega) (ev_pos (by omega) ?_))
    unfold graftwoodlaw05_One.f
    rw [rdN_at l i hil, Few_eq, Few_eq, w_succ i (by omega)]
    refine ev_some (ev_pos (by omega) ?_)
    have h := ih (i + 1) (p ++ [fewN l[i]]) (by omega) (by simp [hp])
    have hd : (l.take 24).drop i = l[i] :: (l.take 24).drop (i + 1) := by
      rw [List.drop_eq_getElem_cons (by rw [List.length_take]; omega), List.getElem_take]
    rw [hd, List.map_cons]
    rw [List.append_assoc] at h
    exact h
theorem few5_ev (l : List Nd) : Ev (fun k => graftwoodlaw05_Few.f k l) (fewL l) := by
  unfold graftwoodlaw05_Few.f
  exact few5_loop l (min l.length 24) 0 [] (by omega) rfl
theorem One_eq (p v : ByteArray) : graftwoodlaw05_One.f p v = some (few p, few v) := by
  unfold graftwoodlaw05_One.f
  rw [Few_eq, Few_eq]; rfl
def few8 (s : ByteArray) : ByteArray := if s.size > 160 then s.extract 0 160 else s
theorem Few8_eq (s : ByteArray) : graftwoodlaw08_Few.f s = some (few8 s) := by
  unfold graftwoodlaw08_Few.f few8
  by_cases h : s.size > 160
  · rw [if_pos (by omega), if_pos (by omega), if_pos (by omega), if_pos h]
  · rw [if_neg (by omega), if_neg h]
def fewT (t : List ByteArray) : List ByteArray := (t.take 24).map few8
theorem fewT_len (t : List ByteArray) : (fewT t).length ≤ 24 := by unfold fewT; rw [List.length_map, List.length_take]; omega
theorem few12_loop (a : List Nd) (t : List ByteArray) (r : List Nd) (d : Nat) : ∀ (i : Nat) (p : List ByteArray), i + d = min t.length 24 → p.length = i → Ev (fun k => graftwoodlaw12_Few.l0 k i a t r p) (r, p ++ ((t.take 24).drop i).map few8) := by
  induction d with
  | zero =>
    intro i p hi hp
    have hd : (t.take 24).drop i = [] := List.drop_eq_nil_of_le (by rw [List.length_take]; omega)
    rw [hd, List.map_nil, List.append_nil]
    refine ev_step (fun k => by rw [graftwoodlaw12_Few.l0]) ?_
    exact ev_ite (fun h => ev_neg (by omega) (ev_now rfl)) (fun _ => ev_now rfl)
  | succ d ih =>
    intro i p hi hp
    have hil : i < t.length := by omega
    refine ev_step (fun k => by rw [graftwoodlaw12_Few.l0]) ?_
    refine ev_pos (by omega) (ev_pos (by omega) (ev_pos (by omega) ?_))
    rw [rdOf_at _ t i hil, Few8_eq, w_succ i (by omega)]
    refine ev_some (ev_pos (by omega) ?_)
    have h := ih (i + 1) (p ++ [few8 t[i]]) (by omega) (by simp [hp])
    have hd : (t.take 24).drop i = t[i] :: (t.take 24).drop (i + 1) := by
      rw [List.drop_eq_getElem_cons (by rw [List.length_take]; omega), List.getElem_take]
    rw [hd, List.map_cons]
    rw [List.append_assoc] at h
    exact h
theorem few12_ev (l : List Nd) (t : List ByteArray) : Ev (fun k => graftwoodlaw12_Few.f k l t) (fewL l, fewT t) := by
  unfold graftwoodlaw12_Few.f
  exact ev_bind (few5_ev l) (few12_loop l t (fewL l) (min t.length 24) 0 [] (by omega) rfl)

/-! ### their order -/
def dV : Ver := ⟨[], [], [], []⟩
def vN (n : Nd) : Ver := (splitL (L n.f1)).getD dV
theorem vN_some {n : Nd} (h : nodeOk n = true) : splitL (L n.f1) = some (vN n) := by
  unfold nodeOk verOk at h
  simp only [Bool.and_eq_true] at h
  obtain ⟨v, hv⟩ := Option.isSome_iff_exists.1 h.2
  unfold vN
  rw [hv]; rfl
def nodeC (a b : Nd) : Int := lexC cmpL verC (L a.f0, vN a) (L b.f0, vN b)
theorem nodeC_flip (a b : Nd) : nodeC b a = - nodeC a b := (tot_lex tot_cmpL tot_ver).flip _ _
theorem nodeC_lt {a b c : Nd} (h1 : nodeC a b < 0) (h2 : nodeC b c < 0) : nodeC a c < 0 := Tot.strictL (tot_lex tot_cmpL tot_ver) h1 (by unfold nodeC at h2; omega)
theorem nodeC_self (a : Nd) : nodeC a a = 0 := ((tot_lex tot_cmpL tot_ver).zero _ _).2 rfl
theorem nodeC_zero {a b : Nd} (ha : nodeOk a = true) (hb : nodeOk b = true) : nodeC a b = 0 ↔ a = b := by
  unfold nodeC
  rw [(tot_lex tot_cmpL tot_ver).zero]
  constructor
  · intro h
    simp only [Prod.mk.injEq] at h
    have h1 := vN_some ha
    have h2 := vN_some hb
    rw [← h.2] at h2
    exact nd_ext (L_inj h.1) (L_inj (splitL_inj h1 h2))
  · intro h; rw [h]
theorem eq_nd (x n : Nd) : (x.f0.toList == n.f0.toList && x.f1.toList == n.f1.toList) = decide (x.f0 = n.f0 ∧ x.f1 = n.f1) := by
  rw [toList_L, toList_L, toList_L, toList_L, Bool.eq_iff_iff]
  simp only [Bool.and_eq_true, beq_iff_eq, decide_eq_true_eq]
  exact ⟨fun h => ⟨L_inj h.1, L_inj h.2⟩, fun h => ⟨by rw [h.1], by rw [h.2]⟩⟩
theorem nodeOrder_ev (a b : Nd) (ha : nodeOk a = true) (hb : nodeOk b = true) (sa : smN a) (sb : smN b) : Ev (fun k => node_order.f k a.f0 a.f1 b.f0 b.f1) (nodeC a b) := by
  unfold node_order.f
  rw [eq_nd]
  obtain ⟨sa0, sa1⟩ := sa
  obtain ⟨sb0, sb1⟩ := sb
  refine ev_ite (fun h => ?_) (fun h => ?_)
  · have h' := of_decide_eq_true h
    exact ev_now ((nodeC_zero ha hb).2 (nd_ext h'.1 h'.2)).symm
  · refine ev_bind (verCmp_ev a.f1 b.f1 (by omega) (by omega)) ?_
    rw [Cmp_eq, vN_some ha, vN_some hb]
    refine ev_some (ev_last ?_)
    have h1 := Or_ev [cmpL (L a.f0) (L b.f0), verC (vN a) (vN b)] (by simp)
    have e : orL [cmpL (L a.f0) (L b.f0), verC (vN a) (vN b)] = nodeC a b := by
      simp only [orL, nodeC, lexC]
      by_cases hc : cmpL (L a.f0) (L b.f0) = 0
      · rw [if_pos hc, if_pos hc]
        by_cases hv : verC (vN a) (vN b) = 0
        · rw [if_pos hv, hv]
        · rw [if_neg hv]
      · rw [if_neg hc, if_neg hc]
    rw [e] at h1
    exact h1
theorem cmpN_ev (a b : Nd) (ha : nodeOk a = true) (hb : nodeOk b = true) (sa : smN a) (sb : smN b) : Ev (fun k => cmpN k a b.f0 b.f1) (nodeC a b) := by
  unfold cmpN
  have h1 := nodeMay_ev a.f0 a.f1 (by have := sa.1; omega) (by have := sa.2; omega)
  have h2 := nodeMay_ev b.f0 b.f1 (by have := sb.1; omega) (by have := sb.2; omega)
  rw [show (isPath (L a.f0) && verOk (L a.f1)) = true from ha] at h1
  rw [show (isPath (L b.f0) && verOk (L b.f1)) = true from hb] at h2
  exact ev_bind h1 (ev_pos rfl (ev_bind h2 (ev_pos rfl (nodeOrder_ev a b ha hb sa sb))))

/-! ### sets of nodes -/
def chkP : Option Nd → List Nd → Bool
  | _, [] => true
  | none, n :: t => nodeOk n && chkP (some n) t
  | some q, n :: t => nodeOk n && (decide (nodeC q n < 0) && chkP (some n) t)
def chk (l : List Nd) : Bool := chkP none l
def srt (l : List Nd) : Prop := l.Pairwise (fun a b => nodeC a b < 0)
theorem chkP_some : ∀ (l : List Nd) (q : Nd), chkP (some q) l = true ↔ okL l ∧ srt (q :: l)
  | [], q => by simp [chkP, okL, srt]
  | n :: t, q => by
    rw [chkP, Bool.and_eq_true, Bool.and_eq_true, decide_eq_true_eq, chkP_some t n]
    unfold srt okL
    rw [List.pairwise_cons (a := q)]
    constructor
    · rintro ⟨h1, h2, h3, h4⟩
      refine ⟨fun x hx => ?_, fun x hx => ?_, h4⟩
      · rcases List.mem_cons.1 hx with rfl | hx
        · exact h1
        · exact h3 x hx
      · rcases List.mem_cons.1 hx with rfl | hx
        · exact h2
        · exact nodeC_lt h2 ((List.pairwise_cons.1 h4).1 x hx)
    · rintro ⟨h1, h2, h3⟩
      exact ⟨h1 n (by simp), h2 n (by simp), fun x hx => h1 x (List.mem_cons_of_mem _ hx), h3⟩
theorem chk_iff (l : List Nd) : chk l = true ↔ okL l ∧ srt l := by
  unfold chk
  cases l with
  | nil => simp [chkP, okL, srt]
  | cons n t =>
    rw [chkP, Bool.and_eq_true, chkP_some]
    constructor
    · rintro ⟨h1, h2, h3⟩
      refine ⟨fun x hx => ?_, h3⟩
      rcases List.mem_cons.1 hx with rfl | hx
      · exact h1
      · exact h2 x hx
    · rintro ⟨h1, h2⟩
      exact ⟨h1 n (by simp), fun x hx => h1 x (List.mem_cons_of_mem _ hx), h2⟩
def errB (b : Bool) : Int := if b = true then 0 else 1
theorem chk_loop (l : List Nd) (hS : smallL l) (hl : l.length ≤ 1000000) (d : Nat) : ∀ (i : Nat) (q : Option Nd), i + d = l.length → (i = 0 → q = none) → (∀ j (h : j < l.length), i = j + 1 → q = some l[j] ∧ nodeOk l[j] = true) → Ev (fun k => node_Check.l0 k l l l.length i) (errB (chkP q (l.drop i))) := by
  induction d with
  | zero =>
    intro i q hi h0 h1
    rw [List.drop_eq_nil_of_le (by omega)]
    refine ev_step (fun k => by rw [node_Check.l0]) ?_
    refine ev_neg (by omega) (ev_now ?_)
    cases q <;> rfl
  | succ d ih =>
    intro i q hi h0 h1
    have hil : i < l.length := by omega
    have hs := hS l[i] (List.getElem_mem hil)
    rw [List.drop_eq_getElem_cons hil]
    refine ev_step (fun k => by rw [node_Check.l0]) ?_
    refine ev_pos (by omega) (ev_pos (by omega) (ev_pos (by omega) ?_))
    rw [rdN_at l i hil, w_succ i (by omega)]
    have hm := nodeMay_ev l[i].f0 l[i].f1 (by have := hs.1; omega) (by have := hs.2; omega)
    refine ev_bind hm ?_
    change Ev (fun k => if nodeOk l[i] = true then _ else _) _
    cases hok : nodeOk l[i] with
    | false =>
      refine ev_neg (by decide) (ev_now ?_)
      cases q <;> simp [chkP, hok, errB]
    | true =>
      refine ev_pos rfl ?_
      have hn := ih (i + 1) (some l[i]) (by omega) (by omega) (fun j h e => by
        obtain rfl : j = i := by omega
        exact ⟨rfl, hok⟩)
      cases i with
      | zero =>
        obtain rfl := h0 rfl
        refine ev_neg (by omega) ?_
        rw [chkP, hok, Bool.true_and]
        exact hn
      | succ j =>
        obtain ⟨rfl, hj⟩ := h1 j (by omega) rfl
        have hw : wrap64 (((j + 1 : Nat) : Int) - 1) = (j : Int) := by rw [w_small (by omega) (by omega)]; omega
        refine ev_pos (by omega) ?_
        rw [hw]
        refine ev_pos (by omega) (ev_pos (by omega) ?_)
        rw [rdN_at l j (by omega)]
        refine ev_bind (nodeOrder_ev l[j] l[j + 1] hj hok (hS _ (List.getElem_mem _)) hs) ?_
        rw [chkP, hok, Bool.true_and]
        refine ev_ite (fun h => ?_) (fun h => ?_)
        · rw [decide_eq_false (by omega)]; exact ev_now rfl
        · rw [decide_eq_true (by omega), Bool.true_and]; exact hn
theorem nodeCheck_ev (l : List Nd) (hS : smallL l) (hl : l.length ≤ 1000000) : Ev (fun k => node_Check.f k l) (errB (chk l)) := by
  unfold node_Check.f
  have h := chk_loop l hS hl l.length 0 none (by omega) (fun _ => rfl) (fun j h e => by omega)
  rw [List.drop_zero] at h
  exact h
def okS (l : List Nd) (t : List ByteArray) : Bool := decide (l.length = t.length) && chk l
theorem storeCheck_ev (l : List Nd) (t : List ByteArray) (hS : smallL l) (hl : l.length ≤ 1000000) : Ev (fun k => store_Check.f k l t) (errB (okS l t)) := by
  unfold store_Check.f okS
  refine ev_ite (fun h => ?_) (fun h => ?_)
  · rw [decide_eq_true (by omega), Bool.true_and]
    exact ev_last (nodeCheck_ev l hS hl)
  · rw [decide_eq_false (by omega), Bool.false_and]
    exact ev_now rfl

/-! ### stores as lists of pairs -/
abbrev Pr := Nd × ByteArray
def ltA (A : List Pr) (n : Nd) : Prop := ∀ a, a ∈ A → nodeC a.1 n < 0
def gtA (A : List Pr) (n : Nd) : Prop := ∀ a, a ∈ A → nodeC n a.1 < 0
structure Sto (P : List Pr) : Prop where
  ok : okL (P.map Prod.fst)
  so : srt (P.map Prod.fst)
  sm : smallL (P.map Prod.fst)
  len : P.length ≤ 100000
theorem Sto.chk {P : List Pr} (h : Sto P) : okS (P.map Prod.fst) (P.map Prod.snd) = true := by
  unfold okS
  rw [(chk_iff _).2 ⟨h.ok, h.so⟩, List.length_map, List.length_map]; simp
theorem sto_split {P : List Pr} : ∀ {n : Nd}, okL (P.map Prod.fst) → srt (P.map Prod.fst) → nodeOk n = true → (∃ A G, P = A ++ G ∧ ltA A n ∧ gtA G n) ∨ (∃ A y G, P = A ++ (n, y) :: G ∧ ltA A n ∧ gtA G n) := by
  induction P with
  | nil => intro n _ _ _; exact .inl ⟨[], [], rfl, fun a h => by simp at h, fun a h => by simp at h⟩
  | cons a P ih =>
    intro n ho hs hn
    have ho' : okL (P.map Prod.fst) := fun x hx => ho x (List.mem_cons_of_mem _ hx)
    rw [List.map_cons] at hs
    unfold srt at hs
    rw [List.pairwise_cons] at hs
    have ha : nodeOk a.1 = true := ho _ (by simp)
    by_cases h1 : nodeC a.1 n < 0
    · rcases ih ho' hs.2 hn with ⟨A, G, e, hA, hG⟩ | ⟨A, y, G, e, hA, hG⟩
      · refine .inl ⟨a :: A, G, by rw [e]; rfl, fun x hx => ?_, hG⟩
        rcases List.mem_cons.1 hx with rfl | hx
        · exact h1
        · exact hA x hx
      · refine .inr ⟨a :: A, y, G, by rw [e]; rfl, fun x hx => ?_, hG⟩
        rcases List.mem_cons.1 hx with rfl | hx
        · exact h1
        · exact hA x hx
    · have hall : ∀ x, x ∈ P → nodeC a.1 x.1 < 0 := fun x hx => hs.1 x.1 (List.mem_map_of_mem hx)
      by_cases h2 : nodeC a.1 n = 0
      · obtain rfl := (nodeC_zero ha hn).1 h2
        exact .inr ⟨[], a.2, P, rfl, fun x hx => by simp at hx, hall⟩
      · have h3 : nodeC n a.1 < 0 := by have := nodeC_flip a.1 n; omega
        refine .inl ⟨[], a :: P, rfl, fun x hx => by simp at hx, fun x hx => ?_⟩
        rcases List.mem_cons.1 hx with rfl | hx
        · exact h3
        · exact nodeC_lt h3 (hall x hx)
theorem srt_join {A G : List Pr} {n : Nd} (h : srt ((A ++ G).map Prod.fst)) (hA : ltA A n) (hG : gtA G n) (x : ByteArray) : srt ((A ++ (n, x) :: G).map Prod.fst) := by
  unfold srt at h ⊢
  rw [List.map_append, List.pairwise_append] at h
  rw [List.map_append, List.pairwise_append, List.map_cons, List.pairwise_cons]
  refine ⟨h.1, ⟨fun y hy => ?_, h.2.1⟩, fun a ha b hb => ?_⟩
  · obtain ⟨g, hg, rfl⟩ := List.mem_map.1 hy
    exact hG g hg
  · obtain ⟨g, hg, rfl⟩ := List.mem_map.1 ha
    rcases List.mem_cons.1 hb with rfl | hb
    · exact hA g hg
    · exact h.2.2 _ ha _ hb
theorem srt_cut {A G : List Pr} {n : Nd} {y : ByteArray} (h : srt ((A ++ (n, y) :: G).map Prod.fst)) : srt ((A ++ G).map Prod.fst) := by
  unfold srt at h ⊢
  rw [List.map_append, List.pairwise_append, List.map_cons, List.pairwise_cons] at h
  rw [List.map_append, List.pairwise_append]
  exact ⟨h.1, h.2.1.2, fun a ha b hb => h.2.2 a ha b (List.mem_cons_of_mem _ hb)⟩
theorem Sto.join {A G : List Pr} {n : Nd} {P : List Pr} (h : Sto P) (hP : ∀ a, a ∈ A ++ G → a ∈ P) (hs : srt ((A ++ G).map Prod.fst)) (hA : ltA A n) (hG : gtA G n) (hn : nodeOk n = true) (sn : smN n) (hl : (A ++ G).length < 100000) (x : ByteArray) : Sto (A ++ (n, x) :: G) := by
  have hm : ∀ q, q ∈ (A ++ (n, x) :: G).map Prod.fst → q = n ∨ q ∈ P.map Prod.fst := fun q hq => by
    obtain ⟨a, ha, rfl⟩ := List.mem_map.1 hq
    rcases List.mem_append.1 ha with ha | ha
    · exact .inr (List.mem_map_of_mem (hP a (List.mem_append_left _ ha)))
    · rcases List.mem_cons.1 ha with rfl | ha
      · exact .inl rfl
      · exact .inr (List.mem_map_of_mem (hP a (List.mem_append_right _ ha)))
  refine ⟨fun q hq => ?_, srt_join hs hA hG x, fun q hq => ?_, ?_⟩
  · rcases hm q hq with rfl | h'
    · exact hn
    · exact h.ok q h'
  · rcases hm q hq with rfl | h'
    · exact sn
    · exact h.sm q h'
  · simp only [List.length_append, List.length_cons] at hl ⊢; omega

theorem sto_of (l : List Nd) (t : List ByteArray) (h : okS l t = true) (hS : smallL l) (hl : l.length ≤ 100000) : ∃ P : List Pr, l = P.map Prod.fst ∧ t = P.map Prod.snd ∧ Sto P := by
  unfold okS at h
  rw [Bool.and_eq_true, decide_eq_true_eq, chk_iff] at h
  have e1 : (l.zip t).map Prod.fst = l := List.map_fst_zip (by omega)
  have e2 : (l.zip t).map Prod.snd = t := List.map_snd_zip (by omega)
  refine ⟨l.zip t, e1.symm, e2.symm, ?_, ?_, ?_, ?_⟩
  · rw [e1]; exact h.2.1
  · rw [e1]; exact h.2.2
  · rw [e1]; exact hS
  · rw [List.length_zip]; omega

/-! ### find -/
def posI (n : Nd) : List Nd → Nat → Int
  | [], _ => -1
  | x :: l, i => if nodeC x n ≥ 0 then (i : Int) else posI n l (i + 1)
theorem idx_ev (n : Nd) (hn : nodeOk n = true) (sn : smN n) : ∀ (l : List Nd) (i : Nat), okL l → smallL l → Ev (fun k => idxGo k n.f0 n.f1 l i) (posI n l i)
  | [], i, _, _ => ev_now rfl
  | x :: l, i, ho, hs => by
    unfold posI
    simp only [idxGo]
    refine ev_bind (cmpN_ev x n (ho x (by simp)) hn (hs x (by simp)) sn) (ev_ite (fun h => ?_) (fun h => ?_))
    · rw [if_pos h]; exact ev_now rfl
    · rw [if_neg h]; exact idx_ev n hn sn l (i + 1) (fun y hy => ho y (List.mem_cons_of_mem _ hy)) (fun y hy => hs y (List.mem_cons_of_mem _ hy))
theorem pos_lt (n : Nd) (G : List Nd) : ∀ (A : List Nd) (i : Nat), (∀ a, a ∈ A → nodeC a n < 0) → posI n (A ++ G) i = posI n G (i + A.length)
  | [], i, _ => rfl
  | x :: A, i, h => by
    have h1 := h x (by simp)
    rw [List.cons_append, posI, if_neg (by omega), pos_lt n G A (i + 1) (fun a ha => h a (List.mem_cons_of_mem _ ha)), List.length_cons]
    congr 1; omega
theorem find_bad (l : List Nd) (t : List ByteArray) (n : Nd) (hS : smallL l) (hl : l.length ≤ 1000000) (sn : smN n) (h : (okS l t && nodeOk n) = false) : Ev (fun k => store_find.f k l t n.f0 n.f1) (0, false, 1) := by
  unfold store_find.f
  refine ev_bind (storeCheck_ev l t hS hl) ?_
  cases hc : okS l t with
  | false => exact ev_neg (by decide) (ev_now rfl)
  | true =>
    rw [hc, Bool.true_and] at h
    refine ev_pos rfl ?_
    have hm := nodeMay_ev n.f0 n.f1 (by have := sn.1; omega) (by have := sn.2; omega)
    rw [show (isPath (L n.f0) && verOk (L n.f1)) = false from h] at hm
    exact ev_bind hm (ev_neg (by decide) (ev_now rfl))
theorem find_good (P : List Pr) (h : Sto P) (n : Nd) (hn : nodeOk n = true) (sn : smN n) (r : Int × Bool × Int)
    (hr : (if posI n (P.map Prod.fst) 0 < 0 then (((P.map Prod.fst).length : Int), false, (0 : Int)) else (posI n (P.map Prod.fst) 0, eqN (rd_T27 (P.map Prod.fst) (posI n (P.map Prod.fst) 0)) n.f0 n.f1, 0)) = r) : Ev (fun k => store_find.f k (P.map Prod.fst) (P.map Prod.snd) n.f0 n.f1) r := by
  have hl : (P.map Prod.fst).length ≤ 100000 := by rw [List.length_map]; exact h.len
  unfold store_find.f
  have hc := storeCheck_ev (P.map Prod.fst) (P.map Prod.snd) h.sm (by omega)
  rw [h.chk] at hc
  have hm := nodeMay_ev n.f0 n.f1 (by have := sn.1; omega) (by have := sn.2; omega)
  rw [show (isPath (L n.f0) && verOk (L n.f1)) = true from hn] at hm
  refine ev_bind hc (ev_pos rfl (ev_bind hm (ev_pos rfl ?_)))
  unfold idxF
  have hi := idx_ev n hn sn (P.map Prod.fst) 0 h.ok h.sm
  refine ev_bind (ev_pos (by omega) hi) ?_
  subst hr
  exact ev_ite (fun h => by rw [if_pos h]; exact ev_now rfl) (fun h => by rw [if_neg h]; exact ev_now rfl)
theorem find_miss {A G : List Pr} {n : Nd} (h : Sto (A ++ G)) (hA : ltA A n) (hG : gtA G n) (hn : nodeOk n = true) (sn : smN n) : Ev (fun k => store_find.f k ((A ++ G).map Prod.fst) ((A ++ G).map Prod.snd) n.f0 n.f1) ((A.length : Int), false, 0) := by
  refine find_good (A ++ G) h n hn sn _ ?_
  have hA' : ∀ a, a ∈ A.map Prod.fst → nodeC a n < 0 := fun a ha => by
    obtain ⟨x, hx, rfl⟩ := List.mem_map.1 ha
    exact hA x hx
  have hp : posI n ((A ++ G).map Prod.fst) 0 = posI n (G.map Prod.fst) A.length := by
    rw [List.map_append, pos_lt n _ _ _ hA', List.length_map, Nat.zero_add]
  rw [hp]
  cases G with
  | nil => rw [List.map_nil, posI, if_pos (by omega), List.append_nil, List.length_map]
  | cons g G =>
    have hg := hG g (by simp)
    have hf := nodeC_flip n g.1
    have hpv : posI n ((g :: G).map Prod.fst) A.length = (A.length : Int) := by rw [List.map_cons, posI, if_pos (by omega)]
    rw [hpv, if_neg (by omega)]
    have hrd : rd_T27 ((A ++ g :: G).map Prod.fst) (A.length : Int) = g.1 := by
      rw [rdN_at _ _ (by simp)]
      simp
    rw [hrd]
    unfold eqN
    rw [eq_nd, decide_eq_false]
    rintro ⟨e1, e2⟩
    obtain rfl := nd_ext e1 e2
    have := nodeC_self g.1
    omega
theorem find_hit {A G : List Pr} {n : Nd} {y : ByteArray} (h : Sto (A ++ (n, y) :: G)) (hA : ltA A n) (hn : nodeOk n = true) (sn : smN n) : Ev (fun k => store_find.f k ((A ++ (n, y) :: G).map Prod.fst) ((A ++ (n, y) :: G).map Prod.snd) n.f0 n.f1) ((A.length : Int), true, 0) := by
  refine find_good (A ++ (n, y) :: G) h n hn sn _ ?_
  have hA' : ∀ a, a ∈ A.map Prod.fst → nodeC a n < 0 := fun a ha => by
    obtain ⟨x, hx, rfl⟩ := List.mem_map.1 ha
    exact hA x hx
  have hp : posI n ((A ++ (n, y) :: G).map Prod.fst) 0 = (A.length : Int) := by
    rw [List.map_append, pos_lt n _ _ _ hA', List.length_map, Nat.zero_add, List.map_cons, posI, if_pos (by rw [nodeC_self]; omega)]
  rw [hp, if_neg (by omega)]
  have hrd : rd_T27 ((A ++ (n, y) :: G).map Prod.fst) (A.length : Int) = n := by
    rw [rdN_at _ _ (by simp)]
    simp
  rw [hrd]
  unfold eqN
  rw [eq_nd, decide_eq_true ⟨rfl, rfl⟩]

/-! ### Get, Put, Drop -/
theorem Get_bad (l : List Nd) (t : List ByteArray) (n : Nd) (hS : smallL l) (hl : l.length ≤ 1000000) (sn : smN n) (h : (okS l t && nodeOk n) = false) : Ev (fun k => store_Get.f k l t n.f0 n.f1) (⟨#[]⟩, 1) := by
  unfold store_Get.f
  exact ev_bind (find_bad l t n hS hl sn h) (ev_neg (by simp) (ev_now rfl))
theorem Put_bad (l : List Nd) (t : List ByteArray) (n : Nd) (x : ByteArray) (hS : smallL l) (hl : l.length ≤ 1000000) (sn : smN n) (h : (okS l t && nodeOk n) = false) : Ev (fun k => store_Put.f k l t n.f0 n.f1 x) (l, t, 1) := by
  unfold store_Put.f
  exact ev_bind (find_bad l t n hS hl sn h) (ev_neg (by simp) (ev_now rfl))
theorem Get_miss {A G : List Pr} {n : Nd} (h : Sto (A ++ G)) (hA : ltA A n) (hG : gtA G n) (hn : nodeOk n = true) (sn : smN n) : Ev (fun k => store_Get.f k ((A ++ G).map Prod.fst) ((A ++ G).map Prod.snd) n.f0 n.f1) (⟨#[]⟩, 2) := by
  unfold store_Get.f
  exact ev_bind (find_miss h hA hG hn sn) (ev_pos rfl (ev_neg (by simp) (ev_now rfl)))
theorem Get_hit {A G : List Pr} {n : Nd} {y : ByteArray} (h : Sto (A ++ (n, y) :: G)) (hA : ltA A n) (hn : nodeOk n = true) (sn : smN n) : Ev (fun k => store_Get.f k ((A ++ (n, y) :: G).map Prod.fst) ((A ++ (n, y) :: G).map Prod.snd) n.f0 n.f1) (y, 0) := by
  unfold store_Get.f
  refine ev_bind (find_hit h hA hn sn) (ev_pos rfl (ev_pos rfl (ev_pos (by omega) (ev_pos (by simp only [List.length_map, List.length_append, List.length_cons]; omega) (ev_now ?_)))))
  rw [rdOf_at _ _ _ (by simp)]
  simp
theorem own_eq (l : List Nd) (t : List ByteArray) (hl : l.length ≤ 1000000000) (ht : t.length ≤ 1000000000) : store_own.f l t = some (l, t) := by
  unfold store_own.f api_Node_31.f slices_Clone_string_string.f
  rw [if_pos hl, if_pos ht]; rfl
theorem Put_miss {A G : List Pr} {n : Nd} (x : ByteArray) (h : Sto (A ++ G)) (hA : ltA A n) (hG : gtA G n) (hn : nodeOk n = true) (sn : smN n) : Ev (fun k => store_Put.f k ((A ++ G).map Prod.fst) ((A ++ G).map Prod.snd) n.f0 n.f1 x) ((A ++ (n, x) :: G).map Prod.fst, (A ++ (n, x) :: G).map Prod.snd, 0) := by
  have hl := h.len
  rw [List.length_append] at hl
  unfold store_Put.f
  refine ev_bind (find_miss h hA hG hn sn) (ev_pos rfl ?_)
  rw [own_eq _ _ (by simp; omega) (by simp; omega)]
  refine ev_some (ev_neg (by simp) ?_)
  unfold api_Node_20.f slices_Insert_string_string.f
  rw [if_pos ⟨by simp; omega, by omega, by simp only [List.length_map, List.length_append, List.length_cons]; omega, rfl⟩, if_pos ⟨by simp; omega, by omega, by simp only [List.length_map, List.length_append, List.length_cons]; omega, rfl⟩]
  refine ev_some (ev_some (ev_now ?_))
  simp only [Int.toNat_natCast, List.map_append, List.map_cons]
  rw [List.take_left' (by simp), List.drop_left' (by simp), List.take_left' (by simp), List.drop_left' (by simp)]
  simp
theorem Put_hit {A G : List Pr} {n : Nd} {y : ByteArray} (x : ByteArray) (h : Sto (A ++ (n, y) :: G)) (hA : ltA A n) (hn : nodeOk n = true) (sn : smN n) : Ev (fun k => store_Put.f k ((A ++ (n, y) :: G).map Prod.fst) ((A ++ (n, y) :: G).map Prod.snd) n.f0 n.f1 x) ((A ++ (n, x) :: G).map Prod.fst, (A ++ (n, x) :: G).map Prod.snd, 0) := by
  have hl := h.len
  rw [List.length_append, List.length_cons] at hl
  unfold store_Put.f
  refine ev_bind (find_hit h hA hn sn) (ev_pos rfl ?_)
  rw [own_eq _ _ (by simp; omega) (by simp; omega)]
  refine ev_some (ev_pos rfl (ev_pos (by omega) (ev_pos (by simp only [List.length_map, List.length_append, List.length_cons]; omega) (ev_now ?_))))
  simp
theorem Drop_miss {A G : List Pr} {n : Nd} (h : Sto (A ++ G)) (hA : ltA A n) (hG : gtA G n) (hn : nodeOk n = true) (sn : smN n) : Ev (fun k => store_Drop.f k ((A ++ G).map Prod.fst) ((A ++ G).map Prod.snd) n.f0 n.f1) ((A ++ G).map Prod.fst, (A ++ G).map Prod.snd, 2) := by
  unfold store_Drop.f
  exact ev_bind (find_miss h hA hG hn sn) (ev_pos rfl (ev_neg (by simp) (ev_now rfl)))
theorem Drop_hit {A G : List Pr} {n : Nd} {y : ByteArray} (h : Sto (A ++ (n, y) :: G)) (hA : ltA A n) (hn : nodeOk n = true) (sn : smN n) : Ev (fun k => store_Drop.f k ((A ++ (n, y) :: G).map Prod.fst) ((A ++ (n, y) :: G).map Prod.snd) n.f0 n.f1) ((A ++ G).map Prod.fst, (A ++ G).map Prod.snd, 0) := by
  have hl := h.len
  rw [List.length_append, List.length_cons] at hl
  unfold store_Drop.f
  refine ev_bind (find_hit h hA hn sn) (ev_pos rfl (ev_pos rfl ?_))
  rw [own_eq _ _ (by simp; omega) (by simp; omega)]
  refine ev_some ?_
  rw [w_succ A.length (by omega)]
  unfold api_Node_22.f slices_Delete_string_string.f
  rw [if_pos ⟨by simp; omega, by omega, by omega, by simp; omega⟩, if_pos ⟨by simp; omega, by omega, by omega, by simp; omega⟩]
  refine ev_some (ev_some (ev_now ?_))
  simp only [Int.toNat_natCast, List.map_append, List.map_cons]
  rw [List.take_left' (by simp), List.take_left' (by simp), ← List.drop_drop, ← List.drop_drop, List.drop_left' (by simp), List.drop_left' (by simp)]
  simp

/-! ### the chapter's examples -/
def exN : Nd := ⟨⟨#[97]⟩, ⟨#[118, 49, 46, 48, 46, 48]⟩⟩
theorem exN_ok : nodeOk exN = true := by decide
theorem exN_sm : smN exN := by unfold smN exN; decide
theorem sto_nil : Sto [] := ⟨fun n h => by simp at h, List.Pairwise.nil, fun n h => by simp at h, by simp⟩
theorem sto_one (x : ByteArray) : Sto [(exN, x)] := Sto.join (A := []) (G := []) sto_nil (fun a h => h) List.Pairwise.nil (fun a h => by simp at h) (fun a h => by simp at h) exN_ok exN_sm (by simp) x
theorem noA (n : Nd) : ltA [] n := fun a h => by simp at h
theorem noG (n : Nd) : gtA [] n := fun a h => by simp at h
theorem awake12_ev : Ev (fun k => graftwoodlaw12_awake.f k) true := by
  unfold graftwoodlaw12_awake.f
  refine ev_bind (Put_miss (A := []) (G := []) (n := exN) ⟨#[120]⟩ sto_nil (noA _) (noG _) exN_ok exN_sm) ?_
  refine ev_bind (Put_hit (A := []) (G := []) (n := exN) (y := ⟨#[120]⟩) ⟨#[121]⟩ (sto_one _) (noA _) exN_ok exN_sm) ?_
  refine ev_bind (Get_hit (A := []) (G := []) (n := exN) (y := ⟨#[121]⟩) (sto_one _) (noA _) exN_ok exN_sm) ?_
  refine ev_bind (Drop_hit (A := []) (G := []) (n := exN) (y := ⟨#[121]⟩) (sto_one _) (noA _) exN_ok exN_sm) ?_
  refine ev_bind (Drop_miss (A := []) (G := []) (n := exN) sto_nil (noA _) (noG _) exN_ok exN_sm) ?_
  exact ev_pos rfl (ev_pos rfl (ev_pos (by rw [toList_L]; rfl) (ev_pos rfl (ev_pos rfl (ev_pos rfl (ev_now rfl))))))
end Go.Proofs.YtomjppafgalaoaaDoor.Q

/-
  What Put, Get and Drop come to, told by which pairs there are.
-/
namespace Go.Proofs.YtomjppafgalaoaaDoor.Q
open Go.RowKit Go.Proofs.YtomjppafgalaoaaDoor.P Go.Proofs.YtomjppafgalaoaaDoorB Go.Proofs.YtomjppafgalaoaaDoorW.PrintWords Go.Proofs.YtomjppafgalaoaaDoorW.PrintLast Go.Proofs.YtomjppafgalaoaaDoorW.PrintMore
set_option linter.unusedSimpArgs false
set_option linter.unusedVariables false
/-! ### which pairs there are -/
theorem ne_of_lt {a b : Nd} (h : nodeC a b < 0) : a ≠ b := fun e => by
  subst e
  have := nodeC_self a
  omega
theorem mem_mid {A G : List Pr} {b a : Pr} : a ∈ A ++ b :: G ↔ a = b ∨ a ∈ A ++ G := by
  rw [List.mem_append, List.mem_cons, List.mem_append]
  constructor
  · rintro (h | h | h)
    · exact .inr (.inl h)
    · exact .inl h
    · exact .inr (.inr h)
  · rintro (h | h | h)
    · exact .inr (.inl h)
    · exact .inl h
    · exact .inr (.inr h)
theorem ne_mid {A G : List Pr} {n : Nd} (hA : ltA A n) (hG : gtA G n) {a : Pr} (h : a ∈ A ++ G) : a.1 ≠ n := by
  rcases List.mem_append.1 h with h | h
  · exact ne_of_lt (hA a h)
  · exact fun e => ne_of_lt (hG a h) e.symm
theorem Put_spec {P : List Pr} (h : Sto P) {n : Nd} (hn : nodeOk n = true) (sn : smN n) (hl : P.length < 100000) (x : ByteArray) : ∃ Q, Sto Q ∧ (∀ a, a ∈ Q ↔ a = (n, x) ∨ (a ∈ P ∧ a.1 ≠ n)) ∧ Q.length ≤ P.length + 1 ∧ Ev (fun k => store_Put.f k (P.map Prod.fst) (P.map Prod.snd) n.f0 n.f1 x) (Q.map Prod.fst, Q.map Prod.snd, 0) := by
  rcases sto_split h.ok h.so hn with ⟨A, G, rfl, hA, hG⟩ | ⟨A, y, G, rfl, hA, hG⟩
  · refine ⟨A ++ (n, x) :: G, h.join (fun a h => h) h.so hA hG hn sn hl x, fun a => ?_, by simp only [List.length_append, List.length_cons]; omega, Put_miss x h hA hG hn sn⟩
    rw [mem_mid]
    exact ⟨fun h => h.imp id fun h => ⟨h, ne_mid hA hG h⟩, fun h => h.imp id fun h => h.1⟩
  · have hs := srt_cut h.so
    simp only [List.length_append, List.length_cons] at hl
    refine ⟨A ++ (n, x) :: G, h.join (fun a h => mem_mid.2 (.inr h)) hs hA hG hn sn (by rw [List.length_append]; omega) x, fun a => ?_, by simp only [List.length_append, List.length_cons]; omega, Put_hit x h hA hn sn⟩
    rw [mem_mid, mem_mid]
    refine ⟨fun h => h.imp id fun h => ⟨.inr h, ne_mid hA hG h⟩, fun h => h.imp id ?_⟩
    rintro ⟨rfl | h, h1⟩
    · exact absurd rfl h1
    · exact h
theorem ltA_of {A G : List Pr} {n : Nd} {y : ByteArray} (h : srt ((A ++ (n, y) :: G).map Prod.fst)) : ltA A n := by
  unfold srt at h
  rw [List.map_append, List.pairwise_append] at h
  exact fun a ha => h.2.2 a.1 (List.mem_map_of_mem ha) n (by simp)
theorem gtA_of {A G : List Pr} {n : Nd} {y : ByteArray} (h : srt ((A ++ (n, y) :: G).map Prod.fst)) : gtA G n := by
  unfold srt at h
  rw [List.map_append, List.pairwise_append, List.map_cons, List.pairwise_cons] at h
  exact fun a ha => h.2.1.1 a.1 (List.mem_map_of_mem ha)
theorem Get_spec {P : List Pr} (h : Sto P) {n : Nd} {y : ByteArray} (hm : (n, y) ∈ P) : Ev (fun k => store_Get.f k (P.map Prod.fst) (P.map Prod.snd) n.f0 n.f1) (y, 0) := by
  have hk : n ∈ P.map Prod.fst := List.mem_map.2 ⟨_, hm, rfl⟩
  obtain ⟨A, G, rfl⟩ := List.append_of_mem hm
  exact Get_hit h (ltA_of h.so) (h.ok _ hk) (h.sm _ hk)
theorem Drop_spec {P : List Pr} (h : Sto P) {n : Nd} {y : ByteArray} (hm : (n, y) ∈ P) : ∃ Q, Sto Q ∧ (∀ a, a ∈ Q ↔ a ∈ P ∧ a.1 ≠ n) ∧ Q.length + 1 = P.length ∧ Ev (fun k => store_Drop.f k (P.map Prod.fst) (P.map Prod.snd) n.f0 n.f1) (Q.map Prod.fst, Q.map Prod.snd, 0) := by
  have hk : n ∈ P.map Prod.fst := List.mem_map.2 ⟨_, hm, rfl⟩
  obtain ⟨A, G, rfl⟩ := List.append_of_mem hm
  have hA := ltA_of h.so
  have hG := gtA_of h.so
  have hsub : ∀ q, q ∈ (A ++ G).map Prod.fst → q ∈ (A ++ (n, y) :: G).map Prod.fst := fun q hq => by
    obtain ⟨a, ha, rfl⟩ := List.mem_map.1 hq
    exact List.mem_map_of_mem (mem_mid.2 (.inr ha))
  have hlen := h.len
  simp only [List.length_append, List.length_cons] at hlen
  refine ⟨A ++ G, ⟨fun q hq => h.ok q (hsub q hq), srt_cut h.so, fun q hq => h.sm q (hsub q hq), by rw [List.length_append]; omega⟩, fun a => ?_, by simp only [List.length_append, List.length_cons]; omega, Drop_hit h hA (h.ok _ hk) (h.sm _ hk)⟩
  rw [mem_mid]
  refine ⟨fun h => ⟨.inr h, ne_mid hA hG h⟩, ?_⟩
  rintro ⟨rfl | h, h1⟩
  · exact absurd rfl h1
  · exact h
theorem Get_none {P : List Pr} (h : Sto P) {n : Nd} (hn : nodeOk n = true) (sn : smN n) (hm : ∀ y, (n, y) ∉ P) : Ev (fun k => store_Get.f k (P.map Prod.fst) (P.map Prod.snd) n.f0 n.f1) (⟨#[]⟩, 2) := by
  rcases sto_split h.ok h.so hn with ⟨A, G, rfl, hA, hG⟩ | ⟨A, y, G, rfl, hA, hG⟩
  · exact Get_miss h hA hG hn sn
  · exact absurd (mem_mid.2 (.inl rfl)) (hm y)
end Go.Proofs.YtomjppafgalaoaaDoor.Q

/-
  StoreGets, in plain Lean.
-/
namespace Go.Proofs.YtomjppafgalaoaaDoor.Pure
open Go.RowKit Go.Proofs.YtomjppafgalaoaaDoor.P Go.Proofs.YtomjppafgalaoaaDoor.Q Go.Proofs.YtomjppafgalaoaaDoorB Go.Proofs.YtomjppafgalaoaaDoorW.PrintWords Go.Proofs.YtomjppafgalaoaaDoorW.PrintLast Go.Proofs.YtomjppafgalaoaaDoorW.PrintMore
set_option linter.unusedVariables false
theorem Gets_end (P Q D : List Pr) (hP : Sto P) (hQ : Sto Q) (hD : Sto D) (n o : Nd) (so : smN o) (hPQ : ∀ y, o ≠ n → ((o, y) ∈ Q ↔ (o, y) ∈ P)) (hQD : ∀ y, o ≠ n → ((o, y) ∈ D ↔ (o, y) ∈ Q)) :
    Ev (fun k => ISG.j0 k false (P.map Prod.fst) (P.map Prod.snd) n.f0 n.f1 o.f0 o.f1 (Q.map Prod.fst) (Q.map Prod.snd) (D.map Prod.fst) (D.map Prod.snd)) true := by
  refine ev_step (fun k => by rw [ISG.j0]) ?_
  refine ev_neg (by simp) ?_
  rw [eq_nd]
  refine ev_ite (fun _ => ev_last awake12_ev) (fun h => ?_)
  have hne : o ≠ n := fun e => h (decide_eq_true ⟨by rw [e], by rw [e]⟩)
  have lP := hP.len
  have lQ := hQ.len
  have lD := hD.len
  suffices hh : ∃ (y : ByteArray) (e : Int), Ev (fun k => store_Get.f k (P.map Prod.fst) (P.map Prod.snd) o.f0 o.f1) (y, e) ∧ Ev (fun k => store_Get.f k (Q.map Prod.fst) (Q.map Prod.snd) o.f0 o.f1) (y, e) ∧ Ev (fun k => store_Get.f k (D.map Prod.fst) (D.map Prod.snd) o.f0 o.f1) (y, e) by
    obtain ⟨y, e, h1, h2, h3⟩ := hh
    exact ev_bind h1 (ev_bind h2 (ev_bind h3 (ev_pos rfl (ev_pos rfl (ev_pos rfl (ev_pos rfl (ev_last awake12_ev)))))))
  cases ho : nodeOk o with
  | false =>
    have hb : ∀ R : List Pr, Sto R → Ev (fun k => store_Get.f k (R.map Prod.fst) (R.map Prod.snd) o.f0 o.f1) (⟨#[]⟩, 1) := fun R hR =>
      Get_bad _ _ o hR.sm (by rw [List.length_map]; have := hR.len; omega) so (by rw [ho, Bool.and_false])
    exact ⟨_, _, hb P hP, hb Q hQ, hb D hD⟩
  | true =>
    by_cases hy : ∃ y, (o, y) ∈ P
    · obtain ⟨y, hy⟩ := hy
      have h2 := (hPQ y hne).2 hy
      exact ⟨_, _, Get_spec hP hy, Get_spec hQ h2, Get_spec hD ((hQD y hne).2 h2)⟩
    · have h1 : ∀ y, (o, y) ∉ P := fun y h => hy ⟨y, h⟩
      have h2 : ∀ y, (o, y) ∉ Q := fun y h => h1 y ((hPQ y hne).1 h)
      have h3 : ∀ y, (o, y) ∉ D := fun y h => h2 y ((hQD y hne).1 h)
      exact ⟨_, _, Get_none hP ho so h1, Get_none hQ ho so h2, Get_none hD ho so h3⟩
theorem StoreGets : graftwoodlaw12_StoreGets.Goal := by
  intro x0 _
  refine Ev.rounds (g := fun k => graftwoodlaw12_StoreGets.f k x0.f0.f0 x0.f0.f1 x0.f1.f0 x0.f1.f1 x0.f2.f0 x0.f2.f1 x0.f3) ?_
  unfold graftwoodlaw12_StoreGets.f
  refine ev_bind (few12_ev x0.f0.f0 x0.f0.f1) ?_
  rw [One_eq, One_eq]
  refine ev_some (ev_some ?_)
  have hS := few_small x0.f0.f0
  have hl := fewL_len x0.f0.f0
  have ht := fewT_len x0.f0.f1
  have sn : smN ⟨few x0.f1.f0, few x0.f1.f1⟩ := ⟨few_size _, few_size _⟩
  have so : smN ⟨few x0.f2.f0, few x0.f2.f1⟩ := ⟨few_size _, few_size _⟩
  generalize fewL x0.f0.f0 = l at *
  generalize fewT x0.f0.f1 = t at *
  generalize hN : (⟨few x0.f1.f0, few x0.f1.f1⟩ : Nd) = n at *
  generalize hO : (⟨few x0.f2.f0, few x0.f2.f1⟩ : Nd) = o at *
  have e0 : few x0.f1.f0 = n.f0 := by rw [← hN]
  have e1 : few x0.f1.f1 = n.f1 := by rw [← hN]
  have e2 : few x0.f2.f0 = o.f0 := by rw [← hO]
  have e3 : few x0.f2.f1 = o.f1 := by rw [← hO]
  simp only [e0, e1, e2, e3]
  clear hN hO e0 e1 e2 e3
  cases hok : okS l t && nodeOk n with
  | false => exact ev_bind (Put_bad l t n _ hS (by omega) sn hok) (ev_neg (by simp) (ev_last awake12_ev))
  | true =>
    obtain ⟨h1, hn⟩ := Bool.and_eq_true_iff.1 hok
    obtain ⟨P, rfl, rfl, hP⟩ := sto_of l t h1 hS (by omega)
    have hPl : P.length ≤ 24 := by rw [List.length_map] at hl; exact hl
    obtain ⟨Q, hQ, mQ, lQ, eQ⟩ := Put_spec hP hn sn (by omega) x0.f3
    have inQ : (n, x0.f3) ∈ Q := (mQ _).2 (.inl rfl)
    obtain ⟨D, hD, mD, lD, eD⟩ := Drop_spec hQ inQ
    have noD : ∀ y, (n, y) ∉ D := fun y h => ((mD _).1 h).2 rfl
    have cQ := storeCheck_ev (Q.map Prod.fst) (Q.map Prod.snd) hQ.sm (by rw [List.length_map]; omega)
    have cD := storeCheck_ev (D.map Prod.fst) (D.map Prod.snd) hD.sm (by rw [List.length_map]; omega)
    rw [hQ.chk] at cQ
    rw [hD.chk] at cD
    refine ev_bind eQ (ev_pos rfl (ev_bind (Get_spec hQ inQ) (ev_bind eD (ev_bind (Get_none hD hn sn noD) ?_))))
    refine ev_pos rfl (ev_pos rfl (ev_pos rfl (ev_pos rfl (ev_bind cQ (ev_pos rfl (ev_bind cD ?_))))))
    refine Gets_end P Q D hP hQ hD n o so (fun y hne => ?_) (fun y hne => ?_)
    · rw [mQ]
      constructor
      · rintro (e | h)
        · exact absurd (congrArg Prod.fst e) hne
        · exact h.1
      · intro h; exact .inr ⟨h, hne⟩
    · rw [mD]
      exact ⟨fun h => h.1, fun h => ⟨h, hne⟩⟩
end Go.Proofs.YtomjppafgalaoaaDoor.Pure
