import Derived.Test.YtjadpeahoaogcaaDoorWWords
import Derived.Test.YtjadpeahoaogcaaDoorWMore
import Derived.Lib.Strings
import Derived.Test.YtjadpeahoaogcaaDoorP2
import Derived.Test.YtjadpeahoaogcaaDoorP6
import Derived.Test.YtjadpeahoaogcaaDoorP12
import Derived.Test.YtjadpeahoaogcaaDoorP5
import Derived.Test.YtjadpeahoaogcaaDoorP7
import Derived.Test.YtjadpeahoaogcaaDoorP8
import Derived.Test.YtjadpeahoaogcaaDoorP15
import Derived.Test.YtjadpeahoaogcaaDoorP13
import Derived.Test.YtjadpeahoaogcaaDoorP14
import Derived.Test.YtjadpeahoaogcaaDoorP16
import Derived.Test.YtjadpeahoaogcaaDoorGVersionSteps
/-
  Plain lemmas: 'eventually' (Ev) over the number of rounds, lists of octets. No program in sight.
-/
namespace Go.Proofs.YtjadpeahoaogcaaDoorB
open Go.RowKit Go.Proofs.YtjadpeahoaogcaaDoorW.PrintWords Go.Proofs.YtjadpeahoaogcaaDoorW.PrintLast Go.Proofs.YtjadpeahoaogcaaDoorW.PrintMore

theorem ev_rounds {α : Type} {g : Nat → Option α} {r : α} (h : Ev g r) : ∃ k, g k = some r := by
  obtain ⟨K, hK⟩ := h
  exact ⟨K, hK K (Nat.le_refl _)⟩
theorem ev_bind {α β : Type} {g : Nat → Option α} {f : Nat → α → Option β} {a : α} {r : β} (h : Ev g a) (k : Ev (fun n => f n a) r) : Ev (fun n => (g n).bind (f n)) r := Ev.bind h k
theorem ev_some {α β : Type} {f : Nat → α → Option β} {a : α} {r : β} (k : Ev (fun n => f n a) r) : Ev (fun n => (some a).bind (f n)) r := k
theorem ev_pos {α : Type} {c : Prop} [Decidable c] {f g : Nat → Option α} {r : α} (h : c) (k : Ev f r) : Ev (fun n => if c then f n else g n) r := by
  simpa only [if_pos h] using k
theorem ev_neg {α : Type} {c : Prop} [Decidable c] {f g : Nat → Option α} {r : α} (h : ¬ c) (k : Ev g r) : Ev (fun n => if c then f n else g n) r := by
  simpa only [if_neg h] using k
theorem ev_ite {α : Type} {c : Prop} [Decidable c] {f g : Nat → Option α} {r : α} (h : c → Ev f r) (k : ¬ c → Ev g r) : Ev (fun n => if c then f n else g n) r := by
  by_cases hc : c
  · exact ev_pos hc (h hc)
  · exact ev_neg hc (k hc)
theorem ev_now {α : Type} {a r : α} (h : a = r) : Ev (fun _ => some a) r := by subst h; exact ⟨0, fun _ _ => rfl⟩
theorem ev_last {α : Type} {g : Nat → Option α} {r : α} (h : Ev g r) : Ev (fun n => (g n).bind fun t => some t) r := ev_bind h (ev_now rfl)
theorem ev_step {α : Type} {g f : Nat → Option α} {r : α} (h : ∀ k, g (k + 1) = f k) (k : Ev f r) : Ev g r := Ev.step h k

/-! ### numbers -/
theorem w_id {i : Int} (h0 : -9223372036854775808 ≤ i) (h1 : i ≤ 9223372036854775807) : wrap64 i = i := by unfold wrap64; omega
theorem w_succ (i : Nat) (h : i ≤ 4611686018427387904) : wrap64 ((i : Int) + 1) = ((i + 1 : Nat) : Int) := by
  have h1 : wrap64 ((i : Int) + 1) = (i : Int) + 1 := w_id (by omega) (by omega)
  rw [h1]; rfl
theorem u8_range {n : Int} (h : (Lit.int .u8 n).wf = true) : 0 ≤ n ∧ n < 256 := by
  have : 0 ≤ n ∧ n ≤ 255 := by simpa [Lit.wf, IntKind.min, IntKind.max, IntKind.signed, IntKind.bits] using h
  omega
theorem mn_eq (a b : Nat) : mn (a : Int) (b : Int) = ((min a b : Nat) : Int) := by unfold mn; split <;> omega

/-! ### texts -/
/-- A text's octets. -/
def L (s : ByteArray) : List UInt8 := s.data.toList
theorem L_size (s : ByteArray) : (L s).length = s.size := by simp [L]
theorem L_inj {a b : ByteArray} (h : L a = L b) : a = b := by
  cases a; cases b; simp only [L] at h; congr; exact Array.ext' h
theorem toList_L (s : ByteArray) : s.toList = L s := Lib.toList_data s
theorem L_append (a b : ByteArray) : L (a ++ b) = L a ++ L b := by simp [L]
theorem mk_L (s : ByteArray) : (⟨(L s).toArray⟩ : ByteArray) = s := by cases s; rfl
theorem L_extract (s : ByteArray) (a b : Nat) : L (s.extract a b) = ((L s).drop a).take (b - a) := Lib.extract_data s a b
theorem bt_L (s : ByteArray) (i : Nat) (h : i < (L s).length) : bt s i = ((L s)[i].toNat : Int) := by
  have h' : i < s.size := by rw [← L_size]; exact h
  unfold bt
  rw [dif_pos (by simpa using h')]
  rfl
theorem rdOf_at {α : Type} (d : α) (l : List α) (i : Nat) (h : i < l.length) : rdOf d l i = l[i] := by
  simp [rdOf, List.getD_eq_getElem?_getD, h]

/-! ### the order of texts -/
theorem less_eq : ∀ (x y : List UInt8), Op.bytesLess x y = decide (x < y)
  | [], [] => by simp [Op.bytesLess]
  | _ :: _, [] => by simp [Op.bytesLess]
  | [], _ :: _ => by simp [Op.bytesLess]
  | a :: x, b :: y => by
    rw [Op.bytesLess, less_eq x y]
    simp only [List.cons_lt_cons_iff]
    by_cases h1 : a < b <;> by_cases h2 : a = b <;> by_cases h3 : x < y <;> simp [h1, h2, h3]
/-- Two texts held against one another. -/
def cmpL (x y : List UInt8) : Int := if x < y then -1 else if y < x then 1 else 0
theorem cmpL_zero {x y : List UInt8} : cmpL x y = 0 ↔ x = y := by
  unfold cmpL
  constructor
  · intro h
    by_cases h1 : x < y
    · rw [if_pos h1] at h; omega
    · rw [if_neg h1] at h
      by_cases h2 : y < x
      · rw [if_pos h2] at h; omega
      · exact List.le_antisymm (List.not_lt.1 h2) (List.not_lt.1 h1)
  · intro h; subst h; simp [List.lt_irrefl]
theorem cmpL_neg {x y : List UInt8} : cmpL x y < 0 ↔ x < y := by
  unfold cmpL
  by_cases h1 : x < y
  · simp [h1]
  · by_cases h2 : y < x <;> simp [h1, h2]
theorem cmpL_flip (x y : List UInt8) : cmpL y x = - cmpL x y := by
  unfold cmpL
  by_cases h1 : x < y
  · have h2 : ¬ y < x := List.lt_asymm h1
    simp [h1, h2]
  · by_cases h2 : y < x <;> simp [h1, h2]
theorem cmpL_le {x y : List UInt8} : cmpL x y ≤ 0 ↔ x ≤ y := by
  rw [← List.not_lt, ← cmpL_neg, cmpL_flip x y]
  omega
end Go.Proofs.YtjadpeahoaogcaaDoorB

/-
  What the printed functions of layer 1 (octet), its reference and its law's helpers come to: plain lists of octets.
-/
namespace Go.Proofs.YtjadpeahoaogcaaDoor.Q
open Go.RowKit Go.Proofs.YtjadpeahoaogcaaDoor.P Go.Proofs.YtjadpeahoaogcaaDoorB Go.Proofs.YtjadpeahoaogcaaDoorW.PrintWords Go.Proofs.YtjadpeahoaogcaaDoorW.PrintLast Go.Proofs.YtjadpeahoaogcaaDoorW.PrintMore
set_option linter.unusedSimpArgs false

theorem size_app (a b : ByteArray) : (a ++ b).size = a.size + b.size := by rw [← L_size, L_append, List.length_append, L_size, L_size]

/-! ### Few -/
def few (a : ByteArray) : ByteArray := if a.size > 400 then a.extract 0 400 else a
theorem few_size (a : ByteArray) : (few a).size ≤ 400 := by
  unfold few
  split
  · simp; omega
  · omega
theorem Few_eq (a : ByteArray) : graftwoodlaw01_Few.f a = some (few a) := by
  unfold graftwoodlaw01_Few.f few
  by_cases h : a.size > 400
  · rw [if_pos (by omega), if_pos (by omega), if_pos (by omega), if_pos h]
  · rw [if_neg (by omega), if_neg h]

/-! ### Cmp -/
theorem Cmp_eq (a b : ByteArray) : octet_Cmp.f a b = some (cmpL (L a) (L b)) := by
  unfold octet_Cmp.f cmp_Compare_string.f cmp_isNaN_string.f cmpL
  simp only [Option.bind_some, bne_self_eq_false, toList_L, less_eq, decide_eq_true_eq]
  by_cases h1 : L a < L b
  · simp [h1]
  · by_cases h2 : L b < L a <;> simp [h1, h2]

/-! ### Parts -/
def partsB (c : UInt8) (s : ByteArray) : List ByteArray := (partsL c (L s)).map fun x => ⟨x.toArray⟩
theorem Parts_eq (s : ByteArray) (c : Int) (h0 : 0 ≤ c) (h1 : c < 256) (hs : s.size ≤ 1000000000) : octet_Parts.f s c = some (partsB c.toNat.toUInt8 s) := by
  unfold octet_Parts.f
  rw [if_pos h0, if_pos h1, if_pos hs]
  rfl
theorem partsL_pos (c : UInt8) (l : List UInt8) : 1 ≤ (partsL c l).length := (partsL_length c l).2
theorem partsL_ne (c : UInt8) (l : List UInt8) : partsL c l ≠ [] := fun h => by have := partsL_pos c l; rw [h] at this; simp at this
/-- Put together again. -/
def joinL (c : UInt8) : List (List UInt8) → List UInt8
  | [] => []
  | [x] => x
  | x :: y :: l => x ++ c :: joinL c (y :: l)
theorem joinL_cons (c : UInt8) (x : List UInt8) (l : List (List UInt8)) (h : l ≠ []) : joinL c (x :: l) = x ++ c :: joinL c l := by
  cases l with
  | nil => exact absurd rfl h
  | cons y l => rfl
theorem partsL_split (c : UInt8) (l : List UInt8) : ∃ h t, partsL c l = h :: t := by
  cases hp : partsL c l with
  | nil => exact absurd hp (partsL_ne c l)
  | cons h t => exact ⟨h, t, rfl⟩
theorem partsL_append (c : UInt8) (b : List UInt8) : ∀ a : List UInt8, partsL c (a ++ c :: b) = partsL c a ++ partsL c b
  | [] => by simp [partsL]
  | x :: a => by
    have ih := partsL_append c b a
    rw [List.cons_append, partsL, ih, partsL]
    obtain ⟨p, t, hp⟩ := partsL_split c a
    by_cases h : x = c
    · rw [if_pos h, if_pos h]; rfl
    · rw [if_neg h, if_neg h, hp]; rfl
theorem partsL_whole (c : UInt8) (l : List UInt8) (h : c ∉ l) : partsL c l = [l] := by
  induction l with
  | nil => rfl
  | cons b l ih =>
    simp only [List.mem_cons, not_or] at h
    rw [partsL, if_neg (fun e => h.1 e.symm), ih h.2]
    rfl
/-- The parts of parts put together, none of which has what parts them. -/
theorem partsL_join (c : UInt8) : ∀ l : List (List UInt8), l ≠ [] → (∀ p, p ∈ l → c ∉ p) → partsL c (joinL c l) = l
  | [], h, _ => absurd rfl h
  | [x], _, hf => by simp only [joinL]; exact partsL_whole c x (hf x (by simp))
  | x :: y :: l, _, hf => by
    rw [joinL_cons c x _ (by simp), partsL_append, partsL_whole c x (hf x (by simp)), partsL_join c (y :: l) (by simp) (fun p hp => hf p (by simp at hp ⊢; exact .inr hp))]
    rfl

theorem part_le (c : UInt8) : ∀ (l : List UInt8) (p : List UInt8), p ∈ partsL c l → p.length ≤ l.length
  | [], p, hp => by simp [partsL] at hp; simp [hp]
  | b :: l, p, hp => by
    have ih := part_le c l
    obtain ⟨x, t, hx⟩ := partsL_split c l
    rw [partsL, hx] at hp
    rw [hx] at ih
    by_cases h : b = c
    · rw [if_pos h] at hp
      rcases List.mem_cons.1 hp with rfl | hp
      · simp
      · have := ih p hp; simp; omega
    · rw [if_neg h] at hp
      rcases List.mem_cons.1 hp with rfl | hp
      · have := ih x (by simp); simpa using this
      · have := ih p (by simp at hp ⊢; exact .inr hp); simp; omega
theorem joinL_small (c : UInt8) (n : Nat) : ∀ l : List (List UInt8), (∀ x, x ∈ l → x.length ≤ n) → (joinL c l).length ≤ (n + 1) * l.length
  | [], _ => by simp [joinL]
  | [x], h => by have := h x (by simp); simp [joinL]; omega
  | x :: y :: l, h => by
    have ih := joinL_small c n (y :: l) (fun z hz => h z (by simp at hz ⊢; exact .inr hz))
    have := h x (by simp)
    rw [joinL_cons c x _ (by simp)]
    simp only [List.length_append, List.length_cons] at ih ⊢
    have e : (n + 1) * (l.length + 1 + 1) = (n + 1) * (l.length + 1) + (n + 1) := by rw [Nat.mul_add]; omega
    omega






theorem All_eq (s : ByteArray) (l : List Int) (hs : s.size ≤ 1000000000) : octet_All.f s l = some (allOf l (L s)) := by
  unfold octet_All.f
  rw [if_pos hs]
  rfl
end Go.Proofs.YtjadpeahoaogcaaDoor.Q

/-
  What the printed functions of layers 2 (number) and 3 (version) and their references come to.
-/
namespace Go.Proofs.YtjadpeahoaogcaaDoor.Q
open Go.RowKit Go.Proofs.YtjadpeahoaogcaaDoor.P Go.Proofs.YtjadpeahoaogcaaDoorB Go.Proofs.YtjadpeahoaogcaaDoorW.PrintWords Go.Proofs.YtjadpeahoaogcaaDoorW.PrintLast Go.Proofs.YtjadpeahoaogcaaDoorW.PrintMore
set_option linter.unusedSimpArgs false
set_option linter.unusedVariables false

/-! ### numbers -/
def zeroOk : List UInt8 → Bool
  | [] => true
  | b :: l => !(b == 48) || l.isEmpty
def numL (l : List UInt8) : Bool := !l.isEmpty && allOf [1] l && zeroOk l
theorem number_May_eq (s : ByteArray) (hs : s.size ≤ 1000000000) : number_May.f s = some (numL (L s)) := by
  have sz := L_size s
  unfold number_May.f
  rw [toList_L, All_eq s [1] hs]
  cases hL : L s with
  | nil => rfl
  | cons b l =>
    rw [hL] at sz
    simp only [List.length_cons] at sz
    have h0 : bt s 0 = (b.toNat : Int) := by
      have := bt_L s 0 (by rw [hL]; simp)
      simpa [hL] using this
    rw [if_neg (by simp), Option.bind_some]
    unfold numL
    cases ha : allOf [1] (b :: l) with
    | false => rw [if_neg (by simp)]; simp
    | true =>
      rw [if_pos rfl, if_pos (by omega), h0]
      have hb48 : ((b.toNat : Int) = 48) ↔ b = 48 := ⟨fun e => UInt8.toNat_inj.1 (by have : (48 : UInt8).toNat = 48 := rfl; omega), fun e => by rw [e]; rfl⟩
      by_cases h : b = 48
      · rw [if_pos (hb48.2 h)]
        congr 1
        rw [Bool.eq_iff_iff, beq_iff_eq]
        unfold zeroOk
        rw [h]
        cases l with
        | nil => simp at sz ⊢; omega
        | cons c l => simp only [List.length_cons] at sz; simp; omega
      · rw [if_neg (fun e => h (hb48.1 e))]
        unfold zeroOk
        simp [h]
def cmpI (a b : Int) : Int := if a < b then -1 else if a > b then 1 else 0
theorem Compare_eq (a b : Int) : cmp_Compare_int.f a b = some (cmpI a b) := by
  unfold cmp_Compare_int.f cmp_isNaN_int.f cmpI
  simp only [Option.bind_some, bne_self_eq_false, Bool.false_eq_true, if_false]
  split
  · rfl
  · split <;> rfl
def orL : List Int → Int
  | [] => 0
  | a :: l => if a = 0 then orL l else a
theorem Or_loop (l : List Int) (hl : l.length ≤ 1000000000) (d : Nat) : ∀ i : Nat, i + d = l.length → Ev (fun k => cmp_Or_int.l0 k 0 l l.length i) (orL (l.drop i)) := by
  induction d with
  | zero =>
    intro i hi
    refine ev_step (fun k => by rw [cmp_Or_int.l0]) ?_
    refine ev_neg (by omega) (ev_now ?_)
    rw [List.drop_eq_nil_of_le (by omega)]; rfl
  | succ d ih =>
    intro i hi
    have hil : i < l.length := by omega
    refine ev_step (fun k => by rw [cmp_Or_int.l0]) ?_
    refine ev_pos (by omega) (ev_pos (by omega) (ev_pos (by omega) ?_))
    have hr : rd l (i : Int) = l[i] := by simp [rd, List.getD_eq_getElem?_getD, hil]
    rw [hr, w_succ i (by omega), List.drop_eq_getElem_cons hil, orL]
    refine ev_ite (fun h => ?_) (fun h => ?_)
    · rw [if_pos h]; exact ih (i + 1) (by omega)
    · rw [if_neg h]; exact ev_now rfl
theorem Or_ev (l : List Int) (hl : l.length ≤ 1000000000) : Ev (fun k => cmp_Or_int.f k l) (orL l) := by
  unfold cmp_Or_int.f
  have h := Or_loop l hl l.length 0 (by omega)
  rw [List.drop_zero] at h
  exact h
/-- Two numbers held against one another. -/
def numC (a b : List UInt8) : Int := if cmpI a.length b.length = 0 then cmpL a b else cmpI a.length b.length
def numbersL (a b : List UInt8) : Int := if numL a && numL b then numC a b else 0
theorem number_Cmp_ev (a b : ByteArray) (ha : a.size ≤ 1000000000) (hb : b.size ≤ 1000000000) : Ev (fun k => number_Cmp.f k a b) (if numL (L a) && numL (L b) then (numC (L a) (L b), 0) else (0, 1)) := by
  unfold number_Cmp.f
  rw [number_May_eq a ha, number_May_eq b hb]
  simp only [Option.bind_some]
  cases numL (L a) with
  | false =>
    refine ev_neg (by decide) ?_
    refine ev_step (fun k => by rw [number_Cmp.j0]) ?_
    exact ev_pos rfl (ev_now rfl)
  | true =>
    refine ev_pos rfl ?_
    refine ev_step (fun k => by rw [number_Cmp.j0]) ?_
    cases numL (L b) with
    | false => exact ev_pos rfl (ev_now rfl)
    | true =>
      refine ev_neg (by decide) ?_
      rw [Compare_eq, Cmp_eq]
      simp only [Option.bind_some]
      refine ev_bind (Or_ev _ (by simp)) (ev_now ?_)
      simp only [orL, numC, L_size, Bool.and_self, if_true]
      by_cases h : cmpI (a.size : Int) (b.size : Int) = 0
      · rw [if_pos h, if_pos h]
        by_cases h2 : cmpL (L a) (L b) = 0
        · rw [if_pos h2, h2]
        · rw [if_neg h2]
      · rw [if_neg h, if_neg h]
theorem numbers_ev (a b : ByteArray) (ha : a.size ≤ 1000000000) (hb : b.size ≤ 1000000000) : Ev (fun k => version_numbers.f k a b) (numbersL (L a) (L b)) := by
  unfold version_numbers.f
  refine ev_bind (number_Cmp_ev a b ha hb) (ev_now ?_)
  unfold numbersL
  cases numL (L a) && numL (L b) <;> rfl

/-! ### words -/
def wordsL (a b : List UInt8) : Int := if numL a then (if numL b then numC a b else -1) else if numL b then 1 else cmpL a b
theorem words_ev (a b : ByteArray) (ha : a.size ≤ 1000000000) (hb : b.size ≤ 1000000000) : Ev (fun k => version_words.f k a b) (wordsL (L a) (L b)) := by
  have hn := numbers_ev a b ha hb
  unfold numbersL at hn
  unfold version_words.f
  rw [number_May_eq a ha, number_May_eq b hb]
  simp only [Option.bind_some]
  unfold wordsL
  cases h1 : numL (L a) with
  | false =>
    refine ev_neg (by decide) ?_
    refine ev_step (fun k => by rw [version_words.j0]) ?_
    refine ev_neg (by decide) (ev_neg (by decide) ?_)
    cases h2 : numL (L b) with
    | false =>
      refine ev_neg (by decide) ?_
      rw [Cmp_eq]
      exact ev_now rfl
    | true => exact ev_pos rfl (ev_now rfl)
  | true =>
    refine ev_pos rfl ?_
    refine ev_step (fun k => by rw [version_words.j0]) ?_
    cases h2 : numL (L b) with
    | false => exact ev_neg (by decide) (ev_pos rfl (ev_now rfl))
    | true =>
      rw [h1, h2] at hn
      exact ev_pos rfl (ev_last hn)
def badL (l : List UInt8) : Bool := l.any fun b => ([46, 95, 126] : List UInt8).contains b
theorem indexAny_any (chars : List UInt8) : ∀ l : List UInt8, decide (Lib.indexAny l chars ≥ 0) = l.any fun b => chars.contains b
  | [] => rfl
  | b :: l => by
    have ih := indexAny_any chars l
    have hg := Lib.indexAny_ge chars l
    rw [Lib.indexAny, List.any_cons, ← ih]
    cases chars.contains b with
    | true => rfl
    | false =>
      rw [if_neg (by decide), Bool.false_or]
      by_cases h : Lib.indexAny l chars = -1
      · rw [if_pos (by rw [h]; rfl), h]
      · rw [if_neg (by simpa using h)]
        congr 1
        rw [eq_iff_iff]
        constructor <;> intro _ <;> omega
theorem ContainsAny_eq (s : ByteArray) (hs : s.size ≤ 1000000000) : strings_ContainsAny.f s (⟨#[46, 95, 126]⟩ : ByteArray) = some (badL (L s)) := by
  unfold strings_ContainsAny.f strings_IndexAny.f
  rw [if_pos ⟨hs, by decide, by decide, by decide⟩, Option.bind_some]
  congr 1
  exact indexAny_any _ _
def wordL (l : List UInt8) : Bool := !l.isEmpty && !badL l && allOf [1, 2, 3] l && (numL l || !allOf [1] l)
theorem word_ev (s : ByteArray) (hs : s.size ≤ 1000000000) : Ev (fun k => version_word.f k s) (wordL (L s)) := by
  have htrue : ∀ r, r = false → Ev (fun k => version_word.j0 k s true) r := by
    intro r hr
    refine ev_step (fun k => by rw [version_word.j0]) ?_
    exact ev_pos rfl (ev_now hr.symm)
  unfold version_word.f
  rw [ContainsAny_eq s hs, All_eq s _ hs, toList_L]
  simp only [Option.bind_some]
  unfold wordL
  refine ev_ite (fun h => htrue _ (by rw [h]; rfl)) (fun h => ?_)
  have hne : (L s).isEmpty = false := by
    cases hL : L s with
    | nil => exact absurd hL h
    | cons => rfl
  rw [hne]
  cases badL (L s) with
  | true => exact ev_pos rfl (htrue _ rfl)
  | false =>
    refine ev_neg (by decide) ?_
    cases allOf [1, 2, 3] (L s) with
    | false => exact htrue _ rfl
    | true =>
      refine ev_step (fun k => by rw [version_word.j0]) ?_
      refine ev_neg (by decide) ?_
      rw [number_May_eq s hs, All_eq s _ hs]
      simp only [Option.bind_some]
      cases numL (L s) with
      | true => exact ev_pos rfl (ev_now rfl)
      | false => exact ev_neg (by decide) (ev_now rfl)

/-! ### cut -/
def cutL : List UInt8 → List UInt8 × List UInt8 × Bool
  | [] => ([], [], false)
  | b :: l => if b = 45 then ([], l, true) else (b :: (cutL l).1, (cutL l).2.1, (cutL l).2.2)
theorem cutL_index : ∀ l : List UInt8, (Lib.indexByte l 45 = -1 ∧ cutL l = (l, [], false)) ∨ ∃ i : Nat, Lib.indexByte l 45 = i ∧ i < l.length ∧ cutL l = (l.take i, l.drop (i + 1), true)
  | [] => .inl ⟨rfl, rfl⟩
  | b :: l => by
    rw [Lib.indexByte, cutL]
    by_cases h : b = 45
    · right
      rw [if_pos (by simp [h]), if_pos h]
      exact ⟨0, rfl, by simp, rfl⟩
    · rw [if_neg (by simp [h]), if_neg h]
      rcases cutL_index l with ⟨h1, h2⟩ | ⟨i, h1, h2, h3⟩
      · left
        rw [h1, h2]
        exact ⟨rfl, rfl⟩
      · right
        refine ⟨i + 1, ?_, by simp; omega, by rw [h3]; rfl⟩
        rw [h1, if_neg (by simp only [beq_iff_eq]; omega)]
        rfl
def mkB (l : List UInt8) : ByteArray := ⟨l.toArray⟩
theorem L_mkB (l : List UInt8) : L (mkB l) = l := rfl
theorem mkB_size (l : List UInt8) : (mkB l).size = l.length := by rw [← L_size, L_mkB]
theorem mkB_L (s : ByteArray) : mkB (L s) = s := mk_L s
theorem Cut_eq (s : ByteArray) (hs : s.size ≤ 1000000000) : strings_Cut.f s (⟨#[45]⟩ : ByteArray) = some (mkB (cutL (L s)).1, mkB (cutL (L s)).2.1, (cutL (L s)).2.2) := by
  have sz := L_size s
  unfold strings_Cut.f stringslite_Cut.f stringslite_Index.f
  rw [if_pos (show (⟨#[45]⟩ : ByteArray).size = 1 from rfl), Option.bind_some]
  have hsep : (⟨#[45]⟩ : ByteArray).size = 1 := rfl
  have hix : Lib.indexByte s.data.toList (List.headD (⟨#[45]⟩ : ByteArray).data.toList 0) = Lib.indexByte (L s) 45 := rfl
  rw [hix, hsep]
  rcases cutL_index (L s) with ⟨h1, h2⟩ | ⟨i, h1, h2, h3⟩
  · rw [h1, h2, if_neg (by decide), Option.bind_some]
    simp only [mkB_L]
    rfl
  · have hw : wrap64 ((i : Int) + (1 : Nat)) = ((i + 1 : Nat) : Int) := w_succ i (by omega)
    rw [h1, h3, hw, if_pos (by omega), if_pos (by omega), if_pos (by omega), if_pos (by omega), if_pos (by omega), Option.bind_some]
    simp only [Int.toNat_natCast]
    congr 1
    refine Prod.ext ?_ (Prod.ext ?_ rfl)
    · refine L_inj ?_
      rw [L_extract, List.drop_zero, Nat.sub_zero]; rfl
    · refine L_inj ?_
      rw [L_extract, List.take_of_length_le (by rw [List.length_drop]; omega)]; rfl
theorem cutL_sizes (l : List UInt8) : (cutL l).1.length ≤ l.length ∧ (cutL l).2.1.length ≤ l.length := by
  rcases cutL_index l with ⟨-, h⟩ | ⟨i, -, h2, h⟩
  · rw [h]; simp
  · rw [h]; simp only [List.length_take, List.length_drop]; omega

/-! ### versions -/
structure Ver where
  a : List UInt8
  b : List UInt8
  c : List UInt8
  p : List (List UInt8)
def coreL (l : List UInt8) : Option (List UInt8 × List UInt8 × List UInt8) := match partsL 46 l with
  | [a, b, c] => if numL a && numL b && numL c then some (a, b, c) else none
  | _ => none
def splitC (core pre : List UInt8) (has : Bool) : Option Ver := match coreL core with
  | some (a, b, c) => if has then (if (partsL 46 pre).all wordL then some ⟨a, b, c, partsL 46 pre⟩ else none) else some ⟨a, b, c, []⟩
  | none => none
def splitL : List UInt8 → Option Ver
  | [] => none
  | v :: t => if v = 118 then splitC (cutL t).1 (cutL t).2.1 (cutL t).2.2 else none
theorem splitL_cons (v : UInt8) (t : List UInt8) : splitL (v :: t) = if v = 118 then splitC (cutL t).1 (cutL t).2.1 (cutL t).2.2 else none := rfl
def verR : Option Ver → ByteArray × ByteArray × ByteArray × List ByteArray × Int
  | some v => (mkB v.a, mkB v.b, mkB v.c, v.p.map mkB, 0)
  | none => (⟨#[]⟩, ⟨#[]⟩, ⟨#[]⟩, [], 1)
theorem Split_loop (x : List ByteArray) (a b c : ByteArray) (p : List ByteArray) (hx : x.length ≤ 1000000001) (hm : ∀ s, s ∈ x → s.size ≤ 1000000000) (d : Nat) : ∀ i : Nat, i + d = x.length →
    Ev (fun k => version_Split.l0 k x x.length i a b c p) (if (x.drop i).all fun s => wordL (L s) then (a, b, c, p, 0) else (⟨#[]⟩, ⟨#[]⟩, ⟨#[]⟩, [], 1)) := by
  induction d with
  | zero =>
    intro i hi
    refine ev_step (fun k => by rw [version_Split.l0]) ?_
    refine ev_neg (by omega) (ev_now ?_)
    rw [List.drop_eq_nil_of_le (by omega)]; rfl
  | succ d ih =>
    intro i hi
    have hil : i < x.length := by omega
    refine ev_step (fun k => by rw [version_Split.l0]) ?_
    refine ev_pos (by omega) (ev_pos (by omega) (ev_pos (by omega) ?_))
    rw [rdOf_at _ x i hil, w_succ i (by omega), List.drop_eq_getElem_cons hil, List.all_cons]
    refine ev_bind (word_ev _ (hm _ (List.getElem_mem _))) ?_
    refine ev_ite (fun h => ?_) (fun h => ?_)
    · rw [h, Bool.true_and]
      exact ih (i + 1) (by omega)
    · have h' : wordL (L x[i]) = false := by simpa using h
      rw [h', Bool.false_and]
      exact ev_now rfl
theorem partsB_mk (c : UInt8) (l : List UInt8) : partsB c (mkB l) = (partsL c l).map mkB := rfl
theorem HasPrefix_v (s : ByteArray) : strings_HasPrefix.f s (⟨#[118]⟩ : ByteArray) = some (match L s with | [] => false | b :: _ => b == 118) := by
  have sz := L_size s
  unfold strings_HasPrefix.f stringslite_HasPrefix.f
  have h1 : (⟨#[118]⟩ : ByteArray).size = 1 := rfl
  rw [h1]
  cases hL : L s with
  | nil =>
    rw [hL] at sz
    simp only [List.length_nil] at sz
    rw [if_neg (by omega)]; rfl
  | cons b l =>
    rw [hL] at sz
    simp only [List.length_cons] at sz
    rw [if_pos (by omega), if_pos (by omega), if_pos (by omega), Option.bind_some]
    congr 1
    have : (s.extract 0 ((1 : Nat) : Int).toNat).toList = [b] := by
      rw [toList_L, L_extract, hL]; rfl
    rw [this]
    have h2 : (⟨#[118]⟩ : ByteArray).toList = [118] := by rw [toList_L]; rfl
    rw [h2]
    simp
theorem Split_ev (s : ByteArray) (hs : s.size ≤ 1000000) : Ev (fun k => version_Split.f k s) (verR (splitL (L s))) := by
  have sz := L_size s
  unfold version_Split.f
  rw [HasPrefix_v]
  refine ev_some ?_
  cases hL : L s with
  | nil => exact ev_neg (by decide) (ev_now rfl)
  | cons v t =>
    rw [hL] at sz
    simp only [List.length_cons] at sz
    by_cases hv : v = 118
    case neg => exact ev_neg (by simp [hv]) (ev_now (by rw [splitL_cons, if_neg hv]; rfl))
    refine ev_pos (by simp [hv]) (ev_pos (by omega) ?_)
    have ht : s.extract 1 s.size = mkB t := by
      refine L_inj ?_
      rw [L_extract, hL, L_mkB]
      show List.take _ t = t
      exact List.take_of_length_le (by omega)
    rw [ht, Cut_eq _ (by rw [mkB_size]; omega), L_mkB]
    simp only [Option.bind_some]
    rw [splitL_cons, if_pos hv]
    have hcs := cutL_sizes t
    generalize cutL t = ct at *
    obtain ⟨core, pre, has⟩ := ct
    simp only at hcs ⊢
    rw [Parts_eq _ 46 (by decide) (by decide) (by rw [mkB_size]; omega)]
    simp only [Option.bind_some]
    have h46 : (46 : Int).toNat.toUInt8 = 46 := rfl
    rw [h46, partsB_mk]
    have hcl := (partsL_length 46 core).1
    have hple := part_le 46 core
    have hbad : ∀ (x : ByteArray) (y : Bool) (z : List ByteArray), Ev (fun k => version_Split.j0 k x y z true) (verR none) := by
      intro x y z
      refine ev_step (fun k => by rw [version_Split.j0]) ?_
      exact ev_pos rfl (ev_now rfl)
    unfold splitC coreL
    rcases hpl : partsL 46 core with _ | ⟨a, _ | ⟨b, _ | ⟨c, _ | ⟨d, r⟩⟩⟩⟩
    · exact ev_neg (by decide) (hbad _ _ _)
    · exact ev_neg (by simp) (hbad _ _ _)
    · exact ev_neg (by simp) (hbad _ _ _)
    · rw [hpl] at hple
      have la := hple a (by simp)
      have lb := hple b (by simp)
      have lc := hple c (by simp)
      refine ev_pos rfl (ev_pos (by simp) ?_)
      have r0 : rdOf ByteArray.empty (List.map mkB [a, b, c]) 0 = mkB a := rfl
      have r1 : rdOf ByteArray.empty (List.map mkB [a, b, c]) 1 = mkB b := rfl
      have r2 : rdOf ByteArray.empty (List.map mkB [a, b, c]) 2 = mkB c := rfl
      rw [r0, r1, r2, number_May_eq _ (by rw [mkB_size]; omega), number_May_eq _ (by rw [mkB_size]; omega), number_May_eq _ (by rw [mkB_size]; omega), L_mkB, L_mkB, L_mkB]
      simp only [Option.bind_some]
      cases numL a with
      | false => exact ev_neg (by decide) (hbad _ _ _)
      | true =>
        refine ev_pos rfl (ev_pos (by simp) ?_)
        cases numL b with
        | false => exact ev_neg (by decide) (hbad _ _ _)
        | true =>
          refine ev_pos rfl (ev_pos (by simp) ?_)
          cases numL c with
          | false => exact hbad _ _ _
          | true =>
            refine ev_step (fun k => by rw [version_Split.j0]) ?_
            refine ev_neg (by decide) (ev_pos (by simp) (ev_pos (by simp) (ev_pos (by simp) ?_)))
            rw [r0, r1, r2]
            cases has with
            | false => exact ev_neg (by decide) (ev_now rfl)
            | true =>
              refine ev_pos rfl ?_
              rw [Parts_eq _ 46 (by decide) (by decide) (by rw [mkB_size]; omega), h46, partsB_mk]
              refine ev_some ?_
              have hpl2 := (partsL_length 46 pre).1
              have hp2 := part_le 46 pre
              have h := Split_loop ((partsL 46 pre).map mkB) (mkB a) (mkB b) (mkB c) ((partsL 46 pre).map mkB) (by rw [List.length_map]; omega) (fun x hx => by
                obtain ⟨y, hy, rfl⟩ := List.mem_map.1 hx
                have := hp2 y hy
                rw [mkB_size]; omega) ((partsL 46 pre).map mkB).length 0 (by omega)
              have he : (((partsL 46 pre).map mkB).drop 0).all (fun s => wordL (L s)) = (partsL 46 pre).all wordL := by
                rw [List.drop_zero, List.all_map]; rfl
              rw [he] at h
              simp only [Bool.and_self, if_true]
              revert h
              cases (partsL 46 pre).all wordL <;> exact fun h => h
    · exact ev_neg (by simp; omega) (hbad _ _ _)
def verOk (l : List UInt8) : Bool := (splitL l).isSome
theorem verMay_ev (s : ByteArray) (hs : s.size ≤ 1000000) : Ev (fun k => version_May.f k s) (verOk (L s)) := by
  unfold version_May.f
  refine ev_bind (Split_ev s hs) (ev_now ?_)
  unfold verOk
  cases splitL (L s) <;> rfl

/-! ### orders -/
structure Tot {α : Type} (c : α → α → Int) : Prop where
  flip : ∀ a b, c b a = - c a b
  zero : ∀ a b, c a b = 0 ↔ a = b
  trans : ∀ a b d, c a b ≤ 0 → c b d ≤ 0 → c a d ≤ 0
theorem tot_cmpL : Tot cmpL where
  flip := cmpL_flip
  zero := fun _ _ => cmpL_zero
  trans := fun a b d h1 h2 => cmpL_le.2 (List.le_trans (cmpL_le.1 h1) (cmpL_le.1 h2))
theorem cmpI_flip (a b : Int) : cmpI b a = - cmpI a b := by unfold cmpI; split <;> split <;> first | omega | (split <;> omega) | rfl
theorem cmpI_zero (a b : Int) : cmpI a b = 0 ↔ a = b := by unfold cmpI; split <;> (try split) <;> omega
theorem cmpI_le (a b : Int) : cmpI a b ≤ 0 ↔ a ≤ b := by unfold cmpI; split <;> (try split) <;> omega
def lexC {α β : Type} (c1 : α → α → Int) (c2 : β → β → Int) (x y : α × β) : Int := if c1 x.1 y.1 = 0 then c2 x.2 y.2 else c1 x.1 y.1
def listC {α : Type} (c : α → α → Int) : List α → List α → Int
  | [], [] => 0
  | [], _ :: _ => -1
  | _ :: _, [] => 1
  | a :: x, b :: y => if c a b = 0 then listC c x y else c a b
theorem tot_numC : Tot numC where
  flip := by
    intro a b
    unfold numC
    have f1 := cmpI_flip (a.length : Int) b.length
    have f2 := cmpL_flip a b
    by_cases h : cmpI (a.length : Int) b.length = 0
    · rw [if_pos h, if_pos (by omega)]; exact f2
    · rw [if_neg h, if_neg (by omega)]; exact f1
  zero := by
    intro a b
    unfold numC
    by_cases h : cmpI (a.length : Int) b.length = 0
    · rw [if_pos h, cmpL_zero]
    · rw [if_neg h]
      exact ⟨fun e => absurd e h, fun e => absurd ((cmpI_zero _ _).2 (by rw [e])) h⟩
  trans := by
    intro a b d h1 h2
    unfold numC at *
    have z1 := cmpI_zero (a.length : Int) b.length
    have z2 := cmpI_zero (b.length : Int) d.length
    have z3 := cmpI_zero (a.length : Int) d.length
    have l1 := cmpI_le (a.length : Int) b.length
    have l2 := cmpI_le (b.length : Int) d.length
    have l3 := cmpI_le (a.length : Int) d.length
    by_cases e1 : cmpI (a.length : Int) b.length = 0
    · rw [if_pos e1] at h1
      have e1' := z1.1 e1
      by_cases e2 : cmpI (b.length : Int) d.length = 0
      · rw [if_pos e2] at h2
        have e2' := z2.1 e2
        rw [if_pos (z3.2 (by omega))]
        exact tot_cmpL.trans _ _ _ h1 h2
      · rw [if_neg e2] at h2
        have h2' := l2.1 h2
        rw [if_neg (fun e => e2 (z2.2 (by have := z3.1 e; omega)))]
        exact l3.2 (by omega)
    · rw [if_neg e1] at h1
      have h1' := l1.1 h1
      by_cases e2 : cmpI (b.length : Int) d.length = 0
      · have e2' := z2.1 e2
        rw [if_neg (fun e => e1 (z1.2 (by have := z3.1 e; omega)))]
        exact l3.2 (by omega)
      · rw [if_neg e2] at h2
        have h2' := l2.1 h2
        rw [if_neg (fun e => e1 (z1.2 (by have := z3.1 e; omega)))]
        exact l3.2 (by omega)
theorem tot_words : Tot wordsL where
  flip := by
    intro a b
    unfold wordsL
    cases numL a <;> cases numL b
    · exact cmpL_flip a b
    · rfl
    · rfl
    · exact tot_numC.flip a b
  zero := by
    intro a b
    unfold wordsL
    cases ha : numL a <;> cases hb : numL b
    · exact cmpL_zero
    · simp; intro e; rw [e, hb] at ha; cases ha
    · simp; intro e; rw [e, hb] at ha; cases ha
    · exact tot_numC.zero a b
  trans := by
    intro a b d h1 h2
    unfold wordsL at *
    cases ha : numL a <;> cases hb : numL b <;> cases hd : numL d <;> simp only [ha, hb, hd, if_true, Bool.false_eq_true, if_false] at h1 h2 ⊢
    · exact tot_cmpL.trans _ _ _ h1 h2
    · omega
    · omega
    · omega
    · omega
    · omega
    · omega
    · exact tot_numC.trans _ _ _ h1 h2
/-- The words behind: none comes last. -/
def preV (x y : List (List UInt8)) : Int := if x.isEmpty || y.isEmpty then cmpI y.length x.length else listC wordsL x y
def verP (v : Ver) : List UInt8 × List UInt8 × List UInt8 × List (List UInt8) := (v.a, v.b, v.c, v.p)
def verC (x y : Ver) : Int := lexC numC (lexC numC (lexC numC preV)) (verP x) (verP y)
theorem verC_eq (x y : Ver) : verC x y = if numC x.a y.a = 0 then (if numC x.b y.b = 0 then (if numC x.c y.c = 0 then preV x.p y.p else numC x.c y.c) else numC x.b y.b) else numC x.a y.a := rfl
theorem verC_orL (x y : Ver) (h : ¬ (x.a = y.a ∧ x.b = y.b ∧ x.c = y.c)) : verC x y = orL [numC x.a y.a, numC x.b y.b, numC x.c y.c] := by
  rw [verC_eq]
  simp only [orL]
  by_cases h1 : numC x.a y.a = 0
  · rw [if_pos h1, if_pos h1]
    by_cases h2 : numC x.b y.b = 0
    · rw [if_pos h2, if_pos h2]
      by_cases h3 : numC x.c y.c = 0
      · exact absurd ⟨(tot_numC.zero _ _).1 h1, (tot_numC.zero _ _).1 h2, (tot_numC.zero _ _).1 h3⟩ h
      · rw [if_neg h3, if_neg h3]
    · rw [if_neg h2, if_neg h2]
  · rw [if_neg h1, if_neg h1]
theorem verC_pre (x y : Ver) (h : x.a = y.a ∧ x.b = y.b ∧ x.c = y.c) : verC x y = preV x.p y.p := by
  rw [verC_eq]
  rw [if_pos ((tot_numC.zero _ _).2 h.1), if_pos ((tot_numC.zero _ _).2 h.2.1), if_pos ((tot_numC.zero _ _).2 h.2.2)]

/-! ### Cmp -/
theorem Cmp_loop (x y : List ByteArray) (a b c a' b' c' : ByteArray) (hx : x.length ≤ 1000000001) (hy : y.length ≤ 1000000001) (hmx : ∀ s, s ∈ x → s.size ≤ 1000000000) (hmy : ∀ s, s ∈ y → s.size ≤ 1000000000) (d : Nat) : ∀ i : Nat, i + d = min x.length y.length →
    Ev (fun k => version_Cmp.l0 k ((min x.length y.length : Nat) : Int) i a b c x a' b' c' y) (listC wordsL ((x.map L).drop i) ((y.map L).drop i), 0) := by
  induction d with
  | zero =>
    intro i hi
    refine ev_step (fun k => by rw [version_Cmp.l0]) ?_
    refine ev_neg (by omega) ?_
    rw [Compare_eq]
    refine ev_now ?_
    congr 1
    have hxl : (x.map L).length = x.length := List.length_map _
    have hyl : (y.map L).length = y.length := List.length_map _
    unfold cmpI
    rcases Nat.lt_trichotomy x.length y.length with h | h | h
    · rw [if_pos (by omega), List.drop_eq_nil_of_le (by omega), List.drop_eq_getElem_cons (by omega)]; rfl
    · rw [if_neg (by omega), if_neg (by omega), List.drop_eq_nil_of_le (by omega), List.drop_eq_nil_of_le (by omega)]; rfl
    · rw [if_neg (by omega), if_pos (by omega), show (y.map L).drop i = [] from List.drop_eq_nil_of_le (by omega), List.drop_eq_getElem_cons (by omega)]; rfl
  | succ d ih =>
    intro i hi
    have hix : i < x.length := by omega
    have hiy : i < y.length := by omega
    refine ev_step (fun k => by rw [version_Cmp.l0]) ?_
    refine ev_pos (by omega) (ev_pos (by omega) (ev_pos (by omega) (ev_pos (by omega) ?_)))
    rw [rdOf_at _ x i hix, rdOf_at _ y i hiy, w_succ i (by omega), List.drop_eq_getElem_cons (l := x.map L) (by rw [List.length_map]; exact hix), List.drop_eq_getElem_cons (l := y.map L) (by rw [List.length_map]; exact hiy), List.getElem_map, List.getElem_map, listC]
    refine ev_bind (words_ev _ _ (hmx _ (List.getElem_mem _)) (hmy _ (List.getElem_mem _))) ?_
    refine ev_ite (fun h => ?_) (fun h => ?_)
    · rw [if_pos h]; exact ih (i + 1) (by omega)
    · rw [if_neg h]; exact ev_now rfl
theorem coreL_some {l a b c : List UInt8} (h : coreL l = some (a, b, c)) : partsL 46 l = [a, b, c] ∧ numL a = true ∧ numL b = true ∧ numL c = true := by
  unfold coreL at h
  split at h
  · rename_i a' b' c' hp
    split at h
    · rename_i hn
      simp only [Option.some.injEq, Prod.mk.injEq] at h
      obtain ⟨rfl, rfl, rfl⟩ := h
      simp only [Bool.and_eq_true] at hn
      exact ⟨hp, hn.1.1, hn.1.2, hn.2⟩
    · cases h
  · cases h
theorem splitL_some {l : List UInt8} {v : Ver} (h : splitL l = some v) : ∃ t, l = 118 :: t ∧ partsL 46 (cutL t).1 = [v.a, v.b, v.c] ∧ numL v.a = true ∧ numL v.b = true ∧ numL v.c = true ∧ v.p.all wordL = true ∧ (if (cutL t).2.2 then v.p = partsL 46 (cutL t).2.1 else v.p = []) := by
  cases l with
  | nil => cases h
  | cons b t =>
    rw [splitL_cons] at h
    unfold splitC at h
    split at h
    · rename_i hb
      split at h
      · rename_i a b c hc
        obtain ⟨h1, h2, h3, h4⟩ := coreL_some hc
        split at h
        · rename_i hh
          split at h
          · rename_i hw
            obtain rfl := Option.some.inj h
            exact ⟨t, by rw [hb], h1, h2, h3, h4, hw, by rw [if_pos hh]⟩
          · cases h
        · rename_i hh
          obtain rfl := Option.some.inj h
          exact ⟨t, by rw [hb], h1, h2, h3, h4, rfl, by rw [if_neg hh]⟩
      · cases h
    · cases h
theorem splitL_sizes {l : List UInt8} {v : Ver} (h : splitL l = some v) : v.a.length ≤ l.length ∧ v.b.length ≤ l.length ∧ v.c.length ≤ l.length ∧ v.p.length ≤ l.length + 1 ∧ ∀ x, x ∈ v.p → x.length ≤ l.length := by
  obtain ⟨t, rfl, hp, -, -, -, -, hq⟩ := splitL_some h
  have hs := cutL_sizes t
  have hpl := part_le 46 (cutL t).1
  rw [hp] at hpl
  have h1 := hpl v.a (by simp)
  have h2 := hpl v.b (by simp)
  have h3 := hpl v.c (by simp)
  simp only [List.length_cons]
  refine ⟨by omega, by omega, by omega, ?_⟩
  split at hq
  · rw [hq]
    have := (partsL_length 46 (cutL t).2.1).1
    refine ⟨by omega, fun x hx => ?_⟩
    have := part_le 46 _ x hx
    omega
  · rw [hq]; simp
def cmpR (x y : Option Ver) : Int × Int := match x, y with
  | some v, some w => (verC v w, 0)
  | _, _ => (0, 1)
theorem map_L_mkB (l : List (List UInt8)) : (l.map mkB).map L = l := by
  rw [List.map_map]
  exact List.map_id'' (fun _ => rfl) _
theorem mkB_toList (l : List UInt8) : (mkB l).toList = l := by rw [toList_L, L_mkB]
theorem verCmp_ev (s t : ByteArray) (hs : s.size ≤ 1000000) (ht : t.size ≤ 1000000) : Ev (fun k => version_Cmp.f k s t) (cmpR (splitL (L s)) (splitL (L t))) := by
  have hbad : ∀ (a b c : ByteArray) (p : List ByteArray) (a' b' c' : ByteArray) (p' : List ByteArray), Ev (fun k => version_Cmp.j0 k true a b c p a' b' c' p') (0, 1) := by
    intro a b c p a' b' c' p'
    refine ev_step (fun k => by rw [version_Cmp.j0]) ?_
    exact ev_pos rfl (ev_now rfl)
  unfold version_Cmp.f
  refine ev_bind (Split_ev s hs) (ev_bind (Split_ev t ht) ?_)
  cases hx : splitL (L s) with
  | none => exact ev_neg (by decide) (hbad _ _ _ _ _ _ _ _)
  | some v =>
    cases hy : splitL (L t) with
    | none => exact ev_pos rfl (hbad _ _ _ _ _ _ _ _)
    | some w =>
      refine ev_pos rfl ?_
      have sv := splitL_sizes hx
      have sw := splitL_sizes hy
      rw [L_size] at sv sw
      obtain ⟨_, -, -, nv1, nv2, nv3, -, -⟩ := splitL_some hx
      obtain ⟨_, -, -, nw1, nw2, nw3, -, -⟩ := splitL_some hy
      refine ev_step (fun k => by rw [version_Cmp.j0]) ?_
      refine ev_neg (by simp [verR]) ?_
      simp only [verR, cmpR, mkB_toList]
      refine ev_ite (fun h => ?_) (fun h => ?_)
      · rw [verC_orL v w (by
          intro ⟨e1, e2, e3⟩
          rw [e1, e2, e3] at h
          simp at h)]
        have g1 := numbers_ev (mkB v.a) (mkB w.a) (by rw [mkB_size]; omega) (by rw [mkB_size]; omega)
        have g2 := numbers_ev (mkB v.b) (mkB w.b) (by rw [mkB_size]; omega) (by rw [mkB_size]; omega)
        have g3 := numbers_ev (mkB v.c) (mkB w.c) (by rw [mkB_size]; omega) (by rw [mkB_size]; omega)
        simp only [L_mkB, numbersL, nv1, nv2, nv3, nw1, nw2, nw3, Bool.and_self, if_true] at g1 g2 g3
        exact ev_bind g1 (ev_bind g2 (ev_bind g3 (ev_bind (Or_ev _ (by simp)) (ev_now rfl))))
      · have hc : v.a = w.a ∧ v.b = w.b ∧ v.c = w.c := by
          simpa using h
        rw [verC_pre v w hc]
        have hj1 : ∀ bb : Bool, bb = (v.p.isEmpty || w.p.isEmpty) → Ev (fun k => version_Cmp.j1 k bb (mkB v.a) (mkB v.b) (mkB v.c) (v.p.map mkB) (mkB w.a) (mkB w.b) (mkB w.c) (w.p.map mkB)) (preV v.p w.p, 0) := by
          intro bb hbb
          refine ev_step (fun k => by rw [version_Cmp.j1]) ?_
          rw [Compare_eq, List.length_map, List.length_map]
          unfold preV
          rw [← hbb]
          cases bb with
          | true => exact ev_pos rfl (ev_now rfl)
          | false =>
            refine ev_neg (by decide) ?_
            rw [mn_eq]
            have h := Cmp_loop (v.p.map mkB) (w.p.map mkB) (mkB v.a) (mkB v.b) (mkB v.c) (mkB w.a) (mkB w.b) (mkB w.c) (by rw [List.length_map]; omega) (by rw [List.length_map]; omega) (fun x hx => by
              obtain ⟨y, hy, rfl⟩ := List.mem_map.1 hx
              have := sv.2.2.2.2 y hy
              rw [mkB_size]; omega) (fun x hx => by
              obtain ⟨y, hy, rfl⟩ := List.mem_map.1 hx
              have := sw.2.2.2.2 y hy
              rw [mkB_size]; omega) (min (v.p.map mkB).length (w.p.map mkB).length) 0 (by omega)
            rw [map_L_mkB, map_L_mkB, List.drop_zero, List.drop_zero, List.length_map, List.length_map] at h
            exact h
        refine ev_ite (fun h0 => hj1 _ ?_) (fun h0 => hj1 _ ?_)
        · rw [List.length_map] at h0
          have : v.p = [] := List.eq_nil_of_length_eq_zero (by omega)
          rw [this]; rfl
        · rw [List.length_map] at h0
          have : v.p.isEmpty = false := by
            cases hv : v.p with
            | nil => rw [hv] at h0; exact absurd rfl h0
            | cons => rfl
          rw [this, Bool.false_or, List.length_map]
          cases w.p with
          | nil => rfl
          | cons x l => simp; omega

/-! ### put together -/
def joinV (v : Ver) : List UInt8 := 118 :: ((v.a ++ 46 :: (v.b ++ 46 :: v.c)) ++ (if v.p.isEmpty then [] else 45 :: joinL 46 v.p))
def verOkV (v : Ver) : Bool := numL v.a && numL v.b && numL v.c && v.p.all wordL
theorem cutL_none : ∀ {l : List UInt8}, (45 : UInt8) ∉ l → cutL l = (l, [], false)
  | [], _ => rfl
  | b :: l, h => by
    rw [cutL, if_neg (fun e => h (by rw [e]; simp)), cutL_none (fun hh => h (List.mem_cons_of_mem _ hh))]
theorem cutL_app (r : List UInt8) : ∀ {l : List UInt8}, (45 : UInt8) ∉ l → cutL (l ++ 45 :: r) = (l, r, true)
  | [], _ => rfl
  | b :: l, h => by
    rw [List.cons_append, cutL, if_neg (fun e => h (by rw [e]; simp)), cutL_app r (fun hh => h (List.mem_cons_of_mem _ hh))]
theorem allOf_free {l : List UInt8} {of : List Int} {c : UInt8} (h : allOf of l = true) (hc : of.contains (clsOf c.toNat) = false) : c ∉ l := by
  intro hin
  have := List.all_eq_true.1 h c hin
  rw [this] at hc
  cases hc
theorem num_all {l : List UInt8} (h : numL l = true) : allOf [1] l = true := by
  unfold numL at h
  simp only [Bool.and_eq_true] at h
  exact h.1.2
theorem word_free {l : List UInt8} (h : wordL l = true) : (46 : UInt8) ∉ l := by
  intro hin
  unfold wordL at h
  simp only [Bool.and_eq_true, Bool.not_eq_true'] at h
  have hb := h.1.1.2
  unfold badL at hb
  rw [List.any_eq_false] at hb
  exact hb 46 hin (by decide)
theorem split_of_join {v : Ver} (h : verOkV v = true) : splitL (joinV v) = some v := by
  obtain ⟨a, b, c, p⟩ := v
  unfold verOkV at h
  simp only [Bool.and_eq_true] at h
  obtain ⟨⟨⟨ha, hb⟩, hc⟩, hp⟩ := h
  have fa := allOf_free (c := 45) (num_all ha) (by decide)
  have fb := allOf_free (c := 45) (num_all hb) (by decide)
  have fc := allOf_free (c := 45) (num_all hc) (by decide)
  have ga := allOf_free (c := 46) (num_all ha) (by decide)
  have gb := allOf_free (c := 46) (num_all hb) (by decide)
  have gc := allOf_free (c := 46) (num_all hc) (by decide)
  have hfree : (45 : UInt8) ∉ a ++ 46 :: (b ++ 46 :: c) := by simp [fa, fb, fc]
  have hparts : partsL 46 (a ++ 46 :: (b ++ 46 :: c)) = [a, b, c] := by
    rw [partsL_append, partsL_append, partsL_whole 46 a ga, partsL_whole 46 b gb, partsL_whole 46 c gc]; rfl
  have hcore : coreL (a ++ 46 :: (b ++ 46 :: c)) = some (a, b, c) := by
    unfold coreL
    rw [hparts]
    simp only [ha, hb, hc, Bool.and_self, if_true]
  unfold joinV
  simp only
  rw [splitL_cons, if_pos rfl]
  unfold splitC
  cases p with
  | nil =>
    have hct : cutL ((a ++ 46 :: (b ++ 46 :: c)) ++ (if ([] : List (List UInt8)).isEmpty then [] else 45 :: joinL 46 [])) = (a ++ 46 :: (b ++ 46 :: c), [], false) := by
      rw [show (if ([] : List (List UInt8)).isEmpty then ([] : List UInt8) else 45 :: joinL 46 []) = [] from rfl, List.append_nil]; exact cutL_none hfree
    rw [hct]
    simp only [hcore]
    rfl
  | cons x p =>
    have hct : cutL ((a ++ 46 :: (b ++ 46 :: c)) ++ (if (x :: p).isEmpty then [] else 45 :: joinL 46 (x :: p))) = (a ++ 46 :: (b ++ 46 :: c), joinL 46 (x :: p), true) := by
      rw [if_neg (by simp)]; exact cutL_app _ hfree
    rw [hct]
    simp only [hcore]
    have hj : partsL 46 (joinL 46 (x :: p)) = x :: p := partsL_join 46 (x :: p) (by simp) (fun q hq => word_free (List.all_eq_true.1 hp q hq))
    rw [hj, hp]
    rfl
theorem numsGo_eq : ∀ (l : List ByteArray), (∀ s, s ∈ l → s.size ≤ 1000000000) → numsGo l = some (l.all fun s => numL (L s))
  | [], _ => rfl
  | s :: l, h => by
    rw [numsGo, number_May_eq s (h s (by simp)), Option.bind_some, List.all_cons]
    cases numL (L s) with
    | true => rw [if_pos rfl, numsGo_eq l (fun x hx => h x (List.mem_cons_of_mem _ hx))]; rfl
    | false => rfl
def tailV (first : Bool) (p : List (List UInt8)) : List UInt8 := if p.isEmpty then [] else (if first then 45 else 46) :: joinL 46 p
theorem joinGo_ev : ∀ (l : List ByteArray) (s : ByteArray) (first : Bool), s.size + l.length * 1000001 ≤ 100000000000 → (∀ x, x ∈ l → x.size ≤ 1000000) → Ev (fun k => joinGo k l s first) (if l.all fun x => wordL (L x) then (mkB (L s ++ tailV first (l.map L)), 0) else (⟨#[]⟩, 1))
  | [], s, first, _, _ => by
    simp only [joinGo, List.all_nil, if_true, List.map_nil, tailV, List.isEmpty_nil, List.append_nil, mkB_L]
    exact ev_now rfl
  | v :: l, s, first, hs, hm => by
    have hv := hm v (by simp)
    simp only [List.length_cons] at hs
    simp only [joinGo]
    refine ev_bind (word_ev v (by omega)) ?_
    rw [List.all_cons]
    refine ev_ite (fun h => ?_) (fun h => ?_)
    · rw [h, Bool.true_and]
      refine ev_pos (by omega) ?_
      have hz : (s ++ ((if first = true then (⟨#[45]⟩ : ByteArray) else ⟨#[46]⟩) ++ v)).size = s.size + 1 + v.size := by
        rw [size_app, size_app]
        cases first <;> (simp only [if_true, Bool.false_eq_true, if_false]; show s.size + (1 + v.size) = _; omega)
      have ih := joinGo_ev l (s ++ ((if first = true then (⟨#[45]⟩ : ByteArray) else ⟨#[46]⟩) ++ v)) false (by rw [hz]; omega) (fun x hx => hm x (List.mem_cons_of_mem _ hx))
      have he : L (s ++ ((if first = true then (⟨#[45]⟩ : ByteArray) else ⟨#[46]⟩) ++ v)) ++ tailV false (l.map L) = L s ++ tailV first ((v :: l).map L) := by
        rw [L_append, L_append]
        unfold tailV
        have hc : L (if first = true then (⟨#[45]⟩ : ByteArray) else ⟨#[46]⟩) = [if first = true then 45 else 46] := by cases first <;> rfl
        rw [hc]
        cases l with
        | nil => simp [joinL]
        | cons x l =>
          simp only [List.map_cons, List.isEmpty_cons, Bool.false_eq_true, if_false]
          rw [joinL_cons 46 (L v) (L x :: l.map L) (by simp)]
          simp
      rw [he] at ih
      exact ih
    · have h' : wordL (L v) = false := by simpa using h
      rw [h', Bool.false_and]
      exact ev_now rfl
theorem joinHead_L (a b c : ByteArray) : L (joinHead a b c) = 118 :: (L a ++ 46 :: (L b ++ 46 :: L c)) := by
  unfold joinHead
  simp only [L_append, List.append_assoc]
  rfl
def joinR (v : Ver) : ByteArray × Int := if verOkV v then (mkB (joinV v), 0) else (⟨#[]⟩, 1)
theorem verJoin_ev (a b c : ByteArray) (l : List ByteArray) (ha : a.size ≤ 1000000) (hb : b.size ≤ 1000000) (hc : c.size ≤ 1000000) (hl : l.length ≤ 10000) (hm : ∀ x, x ∈ l → x.size ≤ 1000000) : Ev (fun k => version_Join.f k a b c l) (joinR ⟨L a, L b, L c, l.map L⟩) := by
  unfold version_Join.f
  rw [numsGo_eq [a, b, c] (by simp; omega)]
  unfold joinR verOkV
  refine ev_some ?_
  have hall : ([a, b, c].all fun s => numL (L s)) = (numL (L a) && numL (L b) && numL (L c)) := by simp [Bool.and_assoc]
  rw [hall]
  cases hn : numL (L a) && numL (L b) && numL (L c) with
  | false => exact ev_neg (by decide) (ev_now rfl)
  | true =>
    have hsz : (joinHead a b c).size = a.size + b.size + c.size + 3 := by
      rw [← L_size, joinHead_L]
      simp only [List.length_cons, List.length_append, L_size]
      omega
    refine ev_pos rfl (ev_pos (by omega) ?_)
    have h := joinGo_ev l (joinHead a b c) true (by rw [hsz]; omega) hm
    rw [joinHead_L] at h
    have he : (l.all fun x => wordL (L x)) = (l.map L).all wordL := by rw [List.all_map]; rfl
    rw [he] at h
    have hj : (118 :: (L a ++ 46 :: (L b ++ 46 :: L c))) ++ tailV true (l.map L) = joinV ⟨L a, L b, L c, l.map L⟩ := by
      unfold joinV tailV
      simp
    rw [hj] at h
    simp only [Bool.true_and]
    exact h

theorem awake3_ev : Ev (fun k => graftwoodlaw03_awake.f k) true := by
  unfold graftwoodlaw03_awake.f
  refine ev_bind (verCmp_ev _ _ (by decide) (by decide)) (ev_bind (verCmp_ev _ _ (by decide) (by decide)) (ev_bind (verCmp_ev _ _ (by decide) (by decide)) ?_))
  refine ev_bind (verMay_ev _ (by decide)) (ev_neg (by decide +kernel) ?_)
  refine ev_bind (verMay_ev _ (by decide)) (ev_pos (by decide +kernel) ?_)
  refine ev_pos (by decide +kernel) (ev_pos (by decide +kernel) (ev_pos (by decide +kernel) (ev_pos (by decide +kernel) (ev_pos (by decide +kernel) (ev_now (by decide +kernel))))))
theorem few3_loop (l : List ByteArray) (a b c : ByteArray) (d : Nat) : ∀ (i : Nat) (p : List ByteArray), i + d = min l.length 8 → p.length = i → Ev (fun k => graftwoodlaw03_Few.l0 k p i a b c l) (a, b, c, p ++ ((l.take 8).drop i).map few) := by
  induction d with
  | zero =>
    intro i p hi hp
    have hd : (l.take 8).drop i = [] := List.drop_eq_nil_of_le (by rw [List.length_take]; omega)
    rw [hd, List.map_nil, List.append_nil]
    refine ev_step (fun k => by rw [graftwoodlaw03_Few.l0]) ?_
    exact ev_ite (fun h => ev_neg (by omega) (ev_now rfl)) (fun _ => ev_now rfl)
  | succ d ih =>
    intro i p hi hp
    have hil : i < l.length := by omega
    refine ev_step (fun k => by rw [graftwoodlaw03_Few.l0]) ?_
    refine ev_pos (by omega) (ev_pos (by omega) (ev_pos (by omega) ?_))
    rw [rdOf_at _ l i hil, Few_eq, w_succ i (by omega)]
    refine ev_some (ev_pos (by omega) ?_)
    have h := ih (i + 1) (p ++ [few l[i]]) (by omega) (by simp [hp])
    have hd : (l.take 8).drop i = l[i] :: (l.take 8).drop (i + 1) := by
      rw [List.drop_eq_getElem_cons (by rw [List.length_take]; omega), List.getElem_take]
    rw [hd, List.map_cons]
    rw [List.append_assoc] at h
    exact h
theorem few3_ev (a b c : ByteArray) (l : List ByteArray) : Ev (fun k => graftwoodlaw03_Few.f k a b c l) (few a, few b, few c, (l.take 8).map few) := by
  unfold graftwoodlaw03_Few.f
  rw [Few_eq, Few_eq, Few_eq]
  simp only [Option.bind_some]
  exact few3_loop l _ _ _ (min l.length 8) 0 [] (by omega) rfl
end Go.Proofs.YtjadpeahoaogcaaDoor.Q

/-
  VersionSteps, in plain Lean.
-/
namespace Go.Proofs.YtjadpeahoaogcaaDoor.Pure
open Go.RowKit Go.Proofs.YtjadpeahoaogcaaDoor.P Go.Proofs.YtjadpeahoaogcaaDoor.Q Go.Proofs.YtjadpeahoaogcaaDoorB Go.Proofs.YtjadpeahoaogcaaDoorW.PrintWords Go.Proofs.YtjadpeahoaogcaaDoorW.PrintLast Go.Proofs.YtjadpeahoaogcaaDoorW.PrintMore
set_option linter.unusedVariables false
/-- One octet, as a text. -/
def oneT (n : Int) : ByteArray := strOfNums ([n] : List Int)
theorem oneT_L (n : Int) : L (oneT n) = [UInt8.ofNat n.toNat] := rfl
theorem oneT_size (n : Int) : (oneT n).size = 1 := by rw [← L_size, oneT_L]; rfl
theorem digits_ok : ∀ r : Fin 9, wordL [UInt8.ofNat (49 + r.val)] = true ∧ numL [UInt8.ofNat (49 + r.val)] = true := by decide
theorem letters_ok : ∀ r : Fin 26, wordL [UInt8.ofNat (97 + r.val)] = true ∧ numL [UInt8.ofNat (97 + r.val)] = false := by decide
theorem digit_is {x : Int} (h0 : 0 ≤ x) (h1 : x < 256) : ∃ r : Fin 9, (49 + Int.tmod x 9) % 256 = ((49 + r.val : Nat) : Int) := by
  obtain ⟨n, rfl⟩ : ∃ n : Nat, x = (n : Int) := ⟨x.toNat, by omega⟩
  refine ⟨⟨n % 9, Nat.mod_lt _ (by decide)⟩, ?_⟩
  show (49 + ((n % 9 : Nat) : Int)) % 256 = _
  have := Nat.mod_lt n (show 0 < 9 by decide)
  simp only
  omega
theorem letter_is {x : Int} (h0 : 0 ≤ x) (h1 : x < 256) : ∃ r : Fin 26, (97 + Int.tmod x 26) % 256 = ((97 + r.val : Nat) : Int) := by
  obtain ⟨n, rfl⟩ : ∃ n : Nat, x = (n : Int) := ⟨x.toNat, by omega⟩
  refine ⟨⟨n % 26, Nat.mod_lt _ (by decide)⟩, ?_⟩
  show (97 + ((n % 26 : Nat) : Int)) % 256 = _
  have := Nat.mod_lt n (show 0 < 26 by decide)
  simp only
  omega
theorem words_self (a : List UInt8) : wordsL a a = 0 := (tot_words.zero a a).2 rfl
theorem listC_more (w : List UInt8) : ∀ p : List (List UInt8), listC wordsL p (p ++ [w]) = -1
  | [] => rfl
  | x :: p => by
    rw [List.cons_append, listC, words_self, if_pos rfl, listC_more w p]
theorem listC_last (a b : List UInt8) (h : wordsL a b = -1) : ∀ p : List (List UInt8), listC wordsL (p ++ [a]) (p ++ [b]) = -1
  | [] => by
    rw [List.nil_append, List.nil_append, listC, h, if_neg (by decide)]
  | x :: p => by
    rw [List.cons_append, List.cons_append, listC, words_self, if_pos rfl, listC_last a b h p]
theorem num_more {c : List UInt8} (h : numL c = true) : numL (49 :: c) = true := by
  unfold numL at h ⊢
  simp only [Bool.and_eq_true] at h ⊢
  refine ⟨⟨rfl, ?_⟩, rfl⟩
  unfold allOf at h ⊢
  rw [List.all_cons, Bool.and_eq_true]
  exact ⟨by decide, h.1.2⟩
theorem numC_more (c : List UInt8) : numC c (49 :: c) = -1 := by
  unfold numC
  have h : cmpI (c.length : Int) ((49 :: c).length : Int) = -1 := by
    unfold cmpI
    rw [List.length_cons, if_pos (by omega)]
  rw [h, if_neg (by decide)]
theorem VersionSteps : graftwoodlaw03_VersionSteps.Goal := by
  intro vv word n _ _ hn
  obtain ⟨a, b, c, l⟩ := vv
  have hu := u8_range hn
  refine ev_rounds (g := fun k => graftwoodlaw03_VersionSteps.f k a b c l word n) ?_
  unfold graftwoodlaw03_VersionSteps.f
  have hA := few_size a
  have hB := few_size b
  have hC := few_size c
  have hW := few_size word
  refine ev_bind (few3_ev a b c l) ?_
  simp only
  rw [Few_eq]
  have hl1 : ((l.take 8).map few).length ≤ 8 := by rw [List.length_map, List.length_take]; omega
  have hm1 : ∀ x, x ∈ (l.take 8).map few → x.size ≤ 400 := by
    intro x hx
    obtain ⟨y, -, rfl⟩ := List.mem_map.1 hx
    exact few_size y
  generalize few a = A at *
  generalize few b = B at *
  generalize few c = C at *
  generalize (l.take 8).map few = P at *
  generalize few word = W at *
  refine ev_some (ev_some (ev_pos (by simp only [List.length_nil]; omega) (ev_some (ev_some (ev_pos (by simp only [List.length_append, List.length_nil, List.length_cons]; omega) (ev_some ?_))))))
  rw [List.nil_append]
  have sz : ∀ (X Y Z : ByteArray) (R : List ByteArray), X.size ≤ 401 → Y.size ≤ 401 → Z.size ≤ 401 → R.length ≤ 9 → (∀ x, x ∈ R → x.size ≤ 401) → (mkB (joinV ⟨L X, L Y, L Z, R.map L⟩)).size ≤ 1000000 := by
    intro X Y Z R h1 h2 h3 h4 h5
    have hj := joinL_small 46 401 (R.map L) (by
      intro y hy
      obtain ⟨x, hx, rfl⟩ := List.mem_map.1 hy
      rw [L_size]; exact h5 x hx)
    rw [List.length_map] at hj
    rw [mkB_size]
    unfold joinV
    simp only [List.length_cons, List.length_append, L_size]
    split
    · simp only [List.length_nil]; omega
    · simp only [List.length_cons]; omega
  have jn : ∀ (Z : ByteArray) (R : List ByteArray), Z.size ≤ 401 → R.length ≤ 9 → (∀ x, x ∈ R → x.size ≤ 401) → Ev (fun k => version_Join.f k A B Z R) (joinR ⟨L A, L B, L Z, R.map L⟩) := fun Z R h1 h2 h3 =>
    verJoin_ev A B Z R (by omega) (by omega) (by omega) (by omega) (fun x hx => by have := h3 x hx; omega)
  have cm : ∀ (Z Z' : ByteArray) (R R' : List ByteArray), Z.size ≤ 401 → Z'.size ≤ 401 → R.length ≤ 9 → R'.length ≤ 9 → (∀ x, x ∈ R → x.size ≤ 401) → (∀ x, x ∈ R' → x.size ≤ 401) → verOkV ⟨L A, L B, L Z, R.map L⟩ = true → verOkV ⟨L A, L B, L Z', R'.map L⟩ = true →
      Ev (fun k => version_Cmp.f k (mkB (joinV ⟨L A, L B, L Z, R.map L⟩)) (mkB (joinV ⟨L A, L B, L Z', R'.map L⟩))) (verC ⟨L A, L B, L Z, R.map L⟩ ⟨L A, L B, L Z', R'.map L⟩, 0) := by
    intro Z Z' R R' h1 h2 h3 h4 h5 h6 o1 o2
    have h := verCmp_ev _ _ (sz A B Z R (by omega) (by omega) h1 h3 h5) (sz A B Z' R' (by omega) (by omega) h2 h4 h6)
    rw [L_mkB, L_mkB, split_of_join o1, split_of_join o2] at h
    exact h
  have mP : ∀ x, x ∈ P → x.size ≤ 401 := fun x hx => by have := hm1 x hx; omega
  have mS : ∀ w : ByteArray, w.size ≤ 401 → ∀ x, x ∈ P ++ [w] → x.size ≤ 401 := by
    intro w hw x hx
    rcases List.mem_append.1 hx with h | h
    · exact mP x h
    · rw [List.mem_singleton.1 h]; exact hw
  have lS : ∀ w : ByteArray, (P ++ [w]).length ≤ 9 := fun w => by rw [List.length_append]; simp only [List.length_cons, List.length_nil]; omega
  have hbad : ∀ s t : ByteArray, Ev (fun k => IVS.j0 k n s t true A B C P A B C (P ++ [W])) true := by
    intro s t
    refine ev_step (fun k => by rw [IVS.j0]) ?_
    exact ev_pos rfl (ev_last awake3_ev)
  refine ev_bind (jn C P (by omega) (by omega) mP) (ev_bind (jn C (P ++ [W]) (by omega) (lS W) (mS W (by omega))) ?_)
  unfold joinR
  cases ho : verOkV ⟨L A, L B, L C, P.map L⟩ with
  | false =>
    simp only [Bool.false_eq_true, if_false]
    exact ev_neg (by decide) (hbad _ _)
  | true =>
    simp only [if_true]
    cases ho' : verOkV ⟨L A, L B, L C, (P ++ [W]).map L⟩ with
    | false =>
      simp only [Bool.false_eq_true, if_false]
      exact hbad _ _
    | true =>
      simp only [if_true]
      -- what a version of these three numbers and of P and one word more wants
      have hv := ho
      have hv' := ho'
      unfold verOkV at hv hv'
      simp only [Bool.and_eq_true] at hv hv'
      obtain ⟨⟨⟨na, nb⟩, nc⟩, np⟩ := hv
      have okw : ∀ (z : List UInt8) (w : ByteArray), numL z = true → wordL (L w) = true → verOkV ⟨L A, L B, z, (P ++ [w]).map L⟩ = true := by
        intro z w h1 h2
        unfold verOkV
        simp only [Bool.and_eq_true]
        refine ⟨⟨⟨na, nb⟩, h1⟩, ?_⟩
        rw [List.map_append, List.all_append, np, Bool.true_and]
        simp [h2]
      have wW : wordL (L W) = true := by
        have h := hv'.2
        rw [List.map_append, List.all_append, Bool.and_eq_true] at h
        simpa using h.2
      have eab : ∀ (z z' : List UInt8) (p p' : List (List UInt8)), verC ⟨L A, L B, z, p⟩ ⟨L A, L B, z', p'⟩ = if numC z z' = 0 then preV p p' else numC z z' := by
        intro z z' p p'
        rw [verC_eq]
        simp only
        rw [if_pos ((tot_numC.zero _ _).2 rfl), if_pos ((tot_numC.zero _ _).2 rfl)]
      -- the last steps
      have hend : ∀ want : Int, Ev (fun k => IVS.j2 k n want want 0 0 (-1) 0 A B C P) true := by
        intro want
        obtain ⟨r, hr⟩ := digit_is hu.1 hu.2
        obtain ⟨q, hq⟩ := letter_is hu.1 hu.2
        have dr := digits_ok r
        have dq := letters_ok q
        refine ev_step (fun k => by rw [IVS.j2]) ?_
        refine ev_some (ev_pos (by simp only [List.length_nil]; omega) (ev_some (ev_some (ev_pos (by simp only [List.length_append, List.length_nil, List.length_cons]; omega) (ev_some (ev_pos (by simp only [List.length_nil]; omega) (ev_some (ev_some (ev_pos (by simp only [List.length_append, List.length_nil, List.length_cons]; omega) ?_)))))))))
        rw [List.nil_append, hr, hq]
        change Ev (fun k => (version_Join.f k A B C (P ++ [oneT ((49 + r.val : Nat) : Int)])).bind _) true
        have s1 := oneT_size ((49 + r.val : Nat) : Int)
        have s2 := oneT_size ((97 + q.val : Nat) : Int)
        have l1 : L (oneT ((49 + r.val : Nat) : Int)) = [UInt8.ofNat (49 + r.val)] := rfl
        have l2 : L (oneT ((97 + q.val : Nat) : Int)) = [UInt8.ofNat (97 + q.val)] := rfl
        have o1 := okw (L C) (oneT ((49 + r.val : Nat) : Int)) nc (by rw [l1]; exact dr.1)
        have o2 := okw (L C) (oneT ((97 + q.val : Nat) : Int)) nc (by rw [l2]; exact dq.1)
        have j1 := jn C (P ++ [oneT ((49 + r.val : Nat) : Int)]) (by omega) (lS _) (mS _ (by omega))
        have j2 := jn C (P ++ [oneT ((97 + q.val : Nat) : Int)]) (by omega) (lS _) (mS _ (by omega))
        have j3 := cm C C (P ++ [oneT ((49 + r.val : Nat) : Int)]) (P ++ [oneT ((97 + q.val : Nat) : Int)]) (by omega) (by omega) (lS _) (lS _) (mS _ (by omega)) (mS _ (by omega)) o1 o2
        have e3 : verC ⟨L A, L B, L C, (P ++ [oneT ((49 + r.val : Nat) : Int)]).map L⟩ ⟨L A, L B, L C, (P ++ [oneT ((97 + q.val : Nat) : Int)]).map L⟩ = -1 := by
          rw [eab, if_pos ((tot_numC.zero _ _).2 rfl), List.map_append, List.map_append]
          unfold preV
          rw [if_neg (by simp)]
          refine listC_last _ _ ?_ _
          rw [l1, l2]
          unfold wordsL
          rw [dr.2, dq.2, if_pos rfl, if_neg (by decide)]
        rw [e3] at j3
        unfold joinR at j1 j2
        rw [if_pos o1] at j1
        rw [if_pos o2] at j2
        exact ev_bind j1 (ev_bind j2 (ev_bind j3 (ev_pos rfl (ev_pos rfl (ev_pos rfl (ev_pos rfl (ev_pos rfl (ev_pos rfl (ev_pos rfl (ev_pos rfl (ev_pos rfl (ev_last awake3_ev)))))))))))) 
      have hmid : ∀ want : Int, verC ⟨L A, L B, L C, P.map L⟩ ⟨L A, L B, L C, (P ++ [W]).map L⟩ = want → Ev (fun k => IVS.j1 k n (mkB (joinV ⟨L A, L B, L C, P.map L⟩)) (mkB (joinV ⟨L A, L B, L C, (P ++ [W]).map L⟩)) want A B C P A B C (P ++ [W])) true := by
        intro want hw
        refine ev_step (fun k => by rw [IVS.j1]) ?_
        have c1 := cm C C P (P ++ [W]) (by omega) (by omega) (by omega) (lS _) mP (mS _ (by omega)) ho ho'
        rw [hw] at c1
        refine ev_bind c1 (ev_pos (by omega) ?_)
        have lz : L ((⟨#[49]⟩ : ByteArray) ++ C) = 49 :: L C := by rw [L_append]; rfl
        have szz : ((⟨#[49]⟩ : ByteArray) ++ C).size ≤ 401 := by rw [← L_size, lz, List.length_cons, L_size]; omega
        have oz := okw (49 :: L C) W (num_more nc) wW
        have j1 := jn ((⟨#[49]⟩ : ByteArray) ++ C) (P ++ [W]) szz (lS _) (mS _ (by omega))
        have c2 := cm C ((⟨#[49]⟩ : ByteArray) ++ C) P (P ++ [W]) (by omega) szz (by omega) (lS _) mP (mS _ (by omega)) ho (by rw [lz]; exact oz)
        rw [lz] at j1 c2
        unfold joinR at j1
        rw [if_pos oz] at j1
        rw [eab, numC_more, if_neg (by decide)] at c2
        refine ev_bind j1 (ev_bind c2 ?_)
        refine ev_ite (fun h => ?_) (fun h => hend want)
        have hC0 : L C = [48] := by rw [← toList_L]; exact h
        have o7 := okw (L (⟨#[55]⟩ : ByteArray)) W (by decide) wW
        have j7 := jn (⟨#[55]⟩ : ByteArray) (P ++ [W]) (by decide) (lS _) (mS _ (by omega))
        have c7 := cm C (⟨#[55]⟩ : ByteArray) P (P ++ [W]) (by omega) (by decide) (by omega) (lS _) mP (mS _ (by omega)) ho o7
        rw [eab, hC0, show numC [48] (L (⟨#[55]⟩ : ByteArray)) = -1 by decide, if_neg (by decide)] at c7
        unfold joinR at j7
        rw [if_pos o7] at j7
        rw [hC0]
        exact ev_bind j7 (ev_bind c7 (hend want))
      change Ev (fun k => IVS.j0 k n _ _ false A B C P A B C (P ++ [W])) true
      refine ev_step (fun k => by rw [IVS.j0]) ?_
      refine ev_neg (by decide) ?_
      have e0 : verC ⟨L A, L B, L C, P.map L⟩ ⟨L A, L B, L C, (P ++ [W]).map L⟩ = preV (P.map L) ((P ++ [W]).map L) := by rw [eab, if_pos ((tot_numC.zero _ _).2 rfl)]
      refine ev_ite (fun h => hmid 1 ?_) (fun h => hmid (-1) ?_)
      · have hp : P = [] := List.eq_nil_of_length_eq_zero (by omega)
        rw [e0, hp]; rfl
      · rw [e0]
        unfold preV
        cases P with
        | nil => exact absurd rfl h
        | cons x P =>
          rw [if_neg (by simp), List.map_append]
          exact listC_more _ _
end Go.Proofs.YtjadpeahoaogcaaDoor.Pure
