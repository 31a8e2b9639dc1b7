import Derived.Test.YtjneghnknfhboaaDoorWWords
import Derived.Test.YtjneghnknfhboaaDoorWMore
import Derived.Lib.Strings
import Derived.Test.YtjneghnknfhboaaDoorP2
import Derived.Test.YtjneghnknfhboaaDoorP4
import Derived.Test.YtjneghnknfhboaaDoorP5
import Derived.Test.YtjneghnknfhboaaDoorP3
import Derived.Test.YtjneghnknfhboaaDoorP11
import Derived.Test.YtjneghnknfhboaaDoorP6
import Derived.Test.YtjneghnknfhboaaDoorP18
import Derived.Test.YtjneghnknfhboaaDoorP12
import Derived.Test.YtjneghnknfhboaaDoorP16
import Derived.Test.YtjneghnknfhboaaDoorP19
import Derived.Test.YtjneghnknfhboaaDoorP20
import Derived.Test.YtjneghnknfhboaaDoorP8
import Derived.Test.YtjneghnknfhboaaDoorP23
import Derived.Test.YtjneghnknfhboaaDoorP24
import Derived.Test.YtjneghnknfhboaaDoorP17
import Derived.Test.YtjneghnknfhboaaDoorP25
import Derived.Test.YtjneghnknfhboaaDoorP21
import Derived.Test.YtjneghnknfhboaaDoorP22
import Derived.Test.YtjneghnknfhboaaDoorP26
import Derived.Test.YtjneghnknfhboaaDoorGInternTells
/-
  Plain lemmas: 'eventually' (Ev) over the number of rounds, lists of octets. No program in sight.
-/
namespace Go.Proofs.YtjneghnknfhboaaDoorB
open Go.RowKit Go.Proofs.YtjneghnknfhboaaDoorW.PrintWords Go.Proofs.YtjneghnknfhboaaDoorW.PrintLast Go.Proofs.YtjneghnknfhboaaDoorW.PrintMore

theorem ev_bind {α β : Type} {g : Nat → Option α} {f : Nat → α → Option β} {a : α} {r : β} (h : Ev g a) (k : Ev (fun n => f n a) r) : Ev (fun n => (g n).bind (f n)) r := Ev.bind h k
theorem ev_some {α β : Type} {f : Nat → α → Option β} {a : α} {r : β} (k : Ev (fun n => f n a) r) : Ev (fun n => (some a).bind (f n)) r := k
theorem ev_pos {α : Type} {c : Prop} [Decidable c] {f g : Nat → Option α} {r : α} (h : c) (k : Ev f r) : Ev (fun n => if c then f n else g n) r := by
  simpa only [if_pos h] using k
theorem ev_neg {α : Type} {c : Prop} [Decidable c] {f g : Nat → Option α} {r : α} (h : ¬ c) (k : Ev g r) : Ev (fun n => if c then f n else g n) r := by
  simpa only [if_neg h] using k
theorem ev_ite {α : Type} {c : Prop} [Decidable c] {f g : Nat → Option α} {r : α} (h : c → Ev f r) (k : ¬ c → Ev g r) : Ev (fun n => if c then f n else g n) r := by
  by_cases hc : c
  · exact ev_pos hc (h hc)
  · exact ev_neg hc (k hc)
theorem ev_now {α : Type} {a r : α} (h : a = r) : Ev (fun _ => some a) r := by subst h; exact Ev.now _
theorem ev_const {α : Type} {g : Option α} {r : α} (h : g = some r) : Ev (fun _ => g) r := by subst h; exact Ev.now _
theorem ev_last {α : Type} {g : Nat → Option α} {r : α} (h : Ev g r) : Ev (fun n => (g n).bind fun t => some t) r := ev_bind h (ev_now rfl)
theorem ev_step {α : Type} {g f : Nat → Option α} {r : α} (h : ∀ k, g (k + 1) = f k) (k : Ev f r) : Ev g r := Ev.step h k

/-! ### numbers -/
theorem w_id {i : Int} (h0 : -9223372036854775808 ≤ i) (h1 : i ≤ 9223372036854775807) : wrap64 i = i := by unfold wrap64; omega
theorem w_succ (i : Nat) (h : i ≤ 4611686018427387904) : wrap64 ((i : Int) + 1) = ((i + 1 : Nat) : Int) := by
  have h1 : wrap64 ((i : Int) + 1) = (i : Int) + 1 := w_id (by omega) (by omega)
  rw [h1]; rfl
/-! ### texts -/
/-- A text's octets. -/
def L (s : ByteArray) : List UInt8 := s.data.toList
theorem L_size (s : ByteArray) : (L s).length = s.size := by simp [L]
theorem L_inj {a b : ByteArray} (h : L a = L b) : a = b := by
  cases a; cases b; simp only [L] at h; congr; exact Array.ext' h
theorem toList_L (s : ByteArray) : s.toList = L s := Lib.toList_data s
theorem L_mk (l : List UInt8) : L ⟨l.toArray⟩ = l := rfl
theorem mk_L (s : ByteArray) : (⟨(L s).toArray⟩ : ByteArray) = s := by cases s; rfl
theorem L_extract (s : ByteArray) (a b : Nat) : L (s.extract a b) = ((L s).drop a).take (b - a) := Lib.extract_data s a b
theorem bt_L (s : ByteArray) (i : Nat) (h : i < (L s).length) : bt s i = ((L s)[i].toNat : Int) := by
  have h' : i < s.size := by rw [← L_size]; exact h
  unfold bt
  rw [dif_pos (by simpa using h')]
  rfl
theorem rdOf_at {α : Type} (d : α) (l : List α) (i : Nat) (h : i < l.length) : rdOf d l i = l[i] := by
  simp [rdOf, List.getD_eq_getElem?_getD, h]

/-- Two texts held against one another. -/
def cmpL (x y : List UInt8) : Int := if x < y then -1 else if y < x then 1 else 0
end Go.Proofs.YtjneghnknfhboaaDoorB

/-
  What the printed functions of layer 1 (octet), its reference and its law's helpers come to: plain lists of octets.
-/
namespace Go.Proofs.YtjneghnknfhboaaDoor.Q
open Go.RowKit Go.Proofs.YtjneghnknfhboaaDoor.P Go.Proofs.YtjneghnknfhboaaDoorB Go.Proofs.YtjneghnknfhboaaDoorW.PrintWords Go.Proofs.YtjneghnknfhboaaDoorW.PrintLast Go.Proofs.YtjneghnknfhboaaDoorW.PrintMore
set_option linter.unusedSimpArgs false

/-! ### Few -/
def few (a : ByteArray) : ByteArray := if a.size > 400 then a.extract 0 400 else a
theorem few_size (a : ByteArray) : (few a).size ≤ 400 := by
  unfold few
  split
  · simp; omega
  · omega
theorem Few_eq (a : ByteArray) : graftwoodlaw01_Few.f a = some (few a) := by
  unfold graftwoodlaw01_Few.f few
  by_cases h : a.size > 400
  · rw [if_pos (by omega), if_pos (by omega), if_pos (by omega), if_pos h]
  · rw [if_neg (by omega), if_neg h]

/-! ### Cmp -/

/-! ### Parts -/
def partsB (c : UInt8) (s : ByteArray) : List ByteArray := (partsL c (L s)).map fun x => ⟨x.toArray⟩
theorem Parts_eq (s : ByteArray) (c : Int) (h0 : 0 ≤ c) (h1 : c < 256) (hs : s.size ≤ 1000000000) : octet_Parts.f s c = some (partsB c.toNat.toUInt8 s) := by
  unfold octet_Parts.f
  rw [if_pos h0, if_pos h1, if_pos hs]
  rfl
theorem partsB_length (c : UInt8) (s : ByteArray) : (partsB c s).length = (partsL c (L s)).length := by simp [partsB]
theorem partsL_pos (c : UInt8) (l : List UInt8) : 1 ≤ (partsL c l).length := (partsL_length c l).2
theorem partsL_ne (c : UInt8) (l : List UInt8) : partsL c l ≠ [] := fun h => by have := partsL_pos c l; rw [h] at this; simp at this
/-- Put together again. -/
def joinL (c : UInt8) : List (List UInt8) → List UInt8
  | [] => []
  | [x] => x
  | x :: y :: l => x ++ c :: joinL c (y :: l)
theorem partsL_split (c : UInt8) (l : List UInt8) : ∃ h t, partsL c l = h :: t := by
  cases hp : partsL c l with
  | nil => exact absurd hp (partsL_ne c l)
  | cons h t => exact ⟨h, t, rfl⟩
theorem partsL_append (c : UInt8) (b : List UInt8) : ∀ a : List UInt8, partsL c (a ++ c :: b) = partsL c a ++ partsL c b
  | [] => by simp [partsL]
  | x :: a => by
    have ih := partsL_append c b a
    rw [List.cons_append, partsL, ih, partsL]
    obtain ⟨p, t, hp⟩ := partsL_split c a
    by_cases h : x = c
    · rw [if_pos h, if_pos h]; rfl
    · rw [if_neg h, if_neg h, hp]; rfl
theorem partsL_whole (c : UInt8) (l : List UInt8) (h : c ∉ l) : partsL c l = [l] := by
  induction l with
  | nil => rfl
  | cons b l ih =>
    simp only [List.mem_cons, not_or] at h
    rw [partsL, if_neg (fun e => h.1 e.symm), ih h.2]
    rfl
theorem part_le (c : UInt8) : ∀ (l : List UInt8) (p : List UInt8), p ∈ partsL c l → p.length ≤ l.length
  | [], p, hp => by simp [partsL] at hp; simp [hp]
  | b :: l, p, hp => by
    have ih := part_le c l
    obtain ⟨x, t, hx⟩ := partsL_split c l
    rw [partsL, hx] at hp
    rw [hx] at ih
    by_cases h : b = c
    · rw [if_pos h] at hp
      rcases List.mem_cons.1 hp with rfl | hp
      · simp
      · have := ih p hp; simp; omega
    · rw [if_neg h] at hp
      rcases List.mem_cons.1 hp with rfl | hp
      · have := ih x (by simp); simpa using this
      · have := ih p (by simp at hp ⊢; exact .inr hp); simp; omega
/-! ### the reference's Parts -/
theorem refParts_loop (s : ByteArray) (c : UInt8) (hs : (L s).length ≤ 1000000000) (d : Nat) : ∀ (i fr : Nat) (out : List ByteArray), i + d = (L s).length → fr ≤ i → c ∉ ((L s).drop fr).take (i - fr) → out.length ≤ i →
    Ev (fun k => graftwoodref01_Parts.l0 k s (c.toNat : Int) out fr i) (out ++ (partsL c ((L s).drop fr)).map fun x => ⟨x.toArray⟩) := by
  have sz := L_size s
  have hex : ∀ a b : Nat, s.extract a b = ⟨(((L s).drop a).take (b - a)).toArray⟩ := fun a b => by rw [← L_extract, mk_L]
  induction d with
  | zero =>
    intro i fr out hi hf hc ho
    refine ev_step (fun k => by rw [graftwoodref01_Parts.l0]) ?_
    refine ev_neg (by omega) (ev_pos (by omega) (ev_pos (by omega) (ev_pos (by omega) (ev_now ?_))))
    rw [List.take_of_length_le (by simp; omega)] at hc
    rw [partsL_whole c _ hc, Int.toNat_natCast, hex, List.take_of_length_le (by simp <;> omega)]
    rfl
  | succ d ih =>
    intro i fr out hi hf hc ho
    have hil : i < (L s).length := by omega
    have e := w_succ i (by omega)
    refine ev_step (fun k => by rw [graftwoodref01_Parts.l0]) ?_
    refine ev_pos (by omega) (ev_pos (by omega) ?_)
    refine ev_ite (fun h => ?_) (fun h => ?_)
    · have hx : (L s)[i] = c := by rw [bt_L s i hil] at h; exact UInt8.toNat_inj.1 (by omega)
      refine ev_pos (by omega) (ev_pos (by omega) (ev_pos (by omega) (ev_pos (by omega) ?_)))
      rw [e, Int.toNat_natCast, Int.toNat_natCast, hex]
      have hd : (L s).drop fr = ((L s).drop fr).take (i - fr) ++ c :: (L s).drop (i + 1) := by
        conv => lhs; rw [← List.take_append_drop (i - fr) ((L s).drop fr)]
        rw [List.drop_drop, show fr + (i - fr) = i by omega, List.drop_eq_getElem_cons hil, hx]
      have hr := ih (i + 1) (i + 1) (out ++ [⟨(((L s).drop fr).take (i - fr)).toArray⟩]) (by omega) (Nat.le_refl _) (by simp) (by simp; omega)
      rw [show (partsL c ((L s).drop fr)) = (((L s).drop fr).take (i - fr)) :: partsL c ((L s).drop (i + 1)) by
        conv => lhs; rw [hd]
        rw [partsL_append, partsL_whole c _ hc]; rfl]
      rw [List.append_assoc] at hr
      exact hr
    · have hx : ¬ (L s)[i] = c := fun hx => h (by rw [bt_L s i hil, hx])
      rw [e]
      refine ih (i + 1) fr out (by omega) (by omega) ?_ (by omega)
      rw [show i + 1 - fr = (i - fr) + 1 by omega, List.take_succ_eq_append_getElem (by simp; omega)]
      simp only [List.mem_append, List.mem_singleton, not_or, List.getElem_drop]
      refine ⟨hc, fun hh => hx ?_⟩
      rw [hh]
      congr 1
      omega
theorem refParts_ev (s : ByteArray) (c : Int) (h0 : 0 ≤ c) (h1 : c < 256) (hs : s.size ≤ 1000000000) : Ev (fun k => graftwoodref01_Parts.f k s c) (partsB c.toNat.toUInt8 s) := by
  have hc : (c.toNat.toUInt8.toNat : Int) = c := by
    have : c.toNat.toUInt8.toNat = c.toNat := by
      show (UInt8.ofNat c.toNat).toNat = _
      rw [UInt8.toNat_ofNat']
      omega
    omega
  have h := refParts_loop s c.toNat.toUInt8 (by rw [L_size]; exact hs) (L s).length 0 0 [] (by omega) (Nat.le_refl _) (by simp) (by simp)
  rw [hc] at h
  simpa [graftwoodref01_Parts.f, partsB] using h


/-! ### the reference's Class -/
theorem refClass_all : ∀ n : Fin 256, graftwoodref01_Class.f 5 (n.val : Int) = some (clsOf (n.val : Int)) := by decide +kernel
theorem refClass_ev (c : Int) (h0 : 0 ≤ c) (h1 : c < 256) : Ev (fun k => graftwoodref01_Class.f k c) (clsOf c) := by
  obtain ⟨n, rfl⟩ := Int.eq_ofNat_of_zero_le h0
  exact Ev.of (fun k => graftwoodref01_Class.mono _ k) (refClass_all ⟨n, by omega⟩)
theorem All_eq (s : ByteArray) (l : List Int) (hs : s.size ≤ 1000000000) : octet_All.f s l = some (allOf l (L s)) := by
  unfold octet_All.f
  rw [if_pos hs]
  rfl
end Go.Proofs.YtjneghnknfhboaaDoor.Q

/-
  What the printed functions of layers 2 (number) and 3 (version) and their references come to.
-/
namespace Go.Proofs.YtjneghnknfhboaaDoor.Q
open Go.RowKit Go.Proofs.YtjneghnknfhboaaDoor.P Go.Proofs.YtjneghnknfhboaaDoorB Go.Proofs.YtjneghnknfhboaaDoorW.PrintWords Go.Proofs.YtjneghnknfhboaaDoorW.PrintLast Go.Proofs.YtjneghnknfhboaaDoorW.PrintMore
set_option linter.unusedSimpArgs false
set_option linter.unusedVariables false

/-! ### numbers -/
def zeroOk : List UInt8 → Bool
  | [] => true
  | b :: l => !(b == 48) || l.isEmpty
def numL (l : List UInt8) : Bool := !l.isEmpty && allOf [1] l && zeroOk l
theorem number_May_eq (s : ByteArray) (hs : s.size ≤ 1000000000) : number_May.f s = some (numL (L s)) := by
  have sz := L_size s
  unfold number_May.f
  rw [toList_L, All_eq s [1] hs]
  cases hL : L s with
  | nil => rfl
  | cons b l =>
    rw [hL] at sz
    simp only [List.length_cons] at sz
    have h0 : bt s 0 = (b.toNat : Int) := by
      have := bt_L s 0 (by rw [hL]; simp)
      simpa [hL] using this
    rw [if_neg (by simp), Option.bind_some]
    unfold numL
    cases ha : allOf [1] (b :: l) with
    | false => rw [if_neg (by simp)]; simp
    | true =>
      rw [if_pos rfl, if_pos (by omega), h0]
      have hb48 : ((b.toNat : Int) = 48) ↔ b = 48 := ⟨fun e => UInt8.toNat_inj.1 (by have : (48 : UInt8).toNat = 48 := rfl; omega), fun e => by rw [e]; rfl⟩
      by_cases h : b = 48
      · rw [if_pos (hb48.2 h)]
        congr 1
        rw [Bool.eq_iff_iff, beq_iff_eq]
        unfold zeroOk
        rw [h]
        cases l with
        | nil => simp at sz ⊢; omega
        | cons c l => simp only [List.length_cons] at sz; simp; omega
      · rw [if_neg (fun e => h (hb48.1 e))]
        unfold zeroOk
        simp [h]
def cmpI (a b : Int) : Int := if a < b then -1 else if a > b then 1 else 0
def orL : List Int → Int
  | [] => 0
  | a :: l => if a = 0 then orL l else a
/-- Two numbers held against one another. -/
def numC (a b : List UInt8) : Int := if cmpI a.length b.length = 0 then cmpL a b else cmpI a.length b.length
def numbersL (a b : List UInt8) : Int := if numL a && numL b then numC a b else 0

/-! ### words -/
def wordsL (a b : List UInt8) : Int := if numL a then (if numL b then numC a b else -1) else if numL b then 1 else cmpL a b
def badL (l : List UInt8) : Bool := l.any fun b => ([46, 95, 126] : List UInt8).contains b
theorem indexAny_any (chars : List UInt8) : ∀ l : List UInt8, decide (Lib.indexAny l chars ≥ 0) = l.any fun b => chars.contains b
  | [] => rfl
  | b :: l => by
    have ih := indexAny_any chars l
    have hg := Lib.indexAny_ge chars l
    rw [Lib.indexAny, List.any_cons, ← ih]
    cases chars.contains b with
    | true => rfl
    | false =>
      rw [if_neg (by decide), Bool.false_or]
      by_cases h : Lib.indexAny l chars = -1
      · rw [if_pos (by rw [h]; rfl), h]
      · rw [if_neg (by simpa using h)]
        congr 1
        rw [eq_iff_iff]
        constructor <;> intro _ <;> omega
theorem ContainsAny_eq (s : ByteArray) (hs : s.size ≤ 1000000000) : strings_ContainsAny.f s (⟨#[46, 95, 126]⟩ : ByteArray) = some (badL (L s)) := by
  unfold strings_ContainsAny.f strings_IndexAny.f
  rw [if_pos ⟨hs, by decide, by decide, by decide⟩, Option.bind_some]
  congr 1
  exact indexAny_any _ _
def wordL (l : List UInt8) : Bool := !l.isEmpty && !badL l && allOf [1, 2, 3] l && (numL l || !allOf [1] l)
theorem word_ev (s : ByteArray) (hs : s.size ≤ 1000000000) : Ev (fun k => version_word.f k s) (wordL (L s)) := by
  have htrue : ∀ r, r = false → Ev (fun k => version_word.j0 k s true) r := by
    intro r hr
    refine ev_step (fun k => by rw [version_word.j0]) ?_
    exact ev_pos rfl (ev_now hr.symm)
  unfold version_word.f
  rw [ContainsAny_eq s hs, All_eq s _ hs, toList_L]
  simp only [Option.bind_some]
  unfold wordL
  refine ev_ite (fun h => htrue _ (by rw [h]; rfl)) (fun h => ?_)
  have hne : (L s).isEmpty = false := by
    cases hL : L s with
    | nil => exact absurd hL h
    | cons => rfl
  rw [hne]
  cases badL (L s) with
  | true => exact ev_pos rfl (htrue _ rfl)
  | false =>
    refine ev_neg (by decide) ?_
    cases allOf [1, 2, 3] (L s) with
    | false => exact htrue _ rfl
    | true =>
      refine ev_step (fun k => by rw [version_word.j0]) ?_
      refine ev_neg (by decide) ?_
      rw [number_May_eq s hs, All_eq s _ hs]
      simp only [Option.bind_some]
      cases numL (L s) with
      | true => exact ev_pos rfl (ev_now rfl)
      | false => exact ev_neg (by decide) (ev_now rfl)

/-! ### cut -/
def cutL : List UInt8 → List UInt8 × List UInt8 × Bool
  | [] => ([], [], false)
  | b :: l => if b = 45 then ([], l, true) else (b :: (cutL l).1, (cutL l).2.1, (cutL l).2.2)
theorem cutL_index : ∀ l : List UInt8, (Lib.indexByte l 45 = -1 ∧ cutL l = (l, [], false)) ∨ ∃ i : Nat, Lib.indexByte l 45 = i ∧ i < l.length ∧ cutL l = (l.take i, l.drop (i + 1), true)
  | [] => .inl ⟨rfl, rfl⟩
  | b :: l => by
    rw [Lib.indexByte, cutL]
    by_cases h : b = 45
    · right
      rw [if_pos (by simp [h]), if_pos h]
      exact ⟨0, rfl, by simp, rfl⟩
    · rw [if_neg (by simp [h]), if_neg h]
      rcases cutL_index l with ⟨h1, h2⟩ | ⟨i, h1, h2, h3⟩
      · left
        rw [h1, h2]
        exact ⟨rfl, rfl⟩
      · right
        refine ⟨i + 1, ?_, by simp; omega, by rw [h3]; rfl⟩
        rw [h1, if_neg (by simp only [beq_iff_eq]; omega)]
        rfl
def mkB (l : List UInt8) : ByteArray := ⟨l.toArray⟩
theorem L_mkB (l : List UInt8) : L (mkB l) = l := rfl
theorem mkB_size (l : List UInt8) : (mkB l).size = l.length := by rw [← L_size, L_mkB]
theorem mkB_L (s : ByteArray) : mkB (L s) = s := mk_L s
theorem Cut_eq (s : ByteArray) (hs : s.size ≤ 1000000000) : strings_Cut.f s (⟨#[45]⟩ : ByteArray) = some (mkB (cutL (L s)).1, mkB (cutL (L s)).2.1, (cutL (L s)).2.2) := by
  have sz := L_size s
  unfold strings_Cut.f stringslite_Cut.f stringslite_Index.f
  rw [if_pos (show (⟨#[45]⟩ : ByteArray).size = 1 from rfl), Option.bind_some]
  have hsep : (⟨#[45]⟩ : ByteArray).size = 1 := rfl
  have hix : Lib.indexByte s.data.toList (List.headD (⟨#[45]⟩ : ByteArray).data.toList 0) = Lib.indexByte (L s) 45 := rfl
  rw [hix, hsep]
  rcases cutL_index (L s) with ⟨h1, h2⟩ | ⟨i, h1, h2, h3⟩
  · rw [h1, h2, if_neg (by decide), Option.bind_some]
    simp only [mkB_L]
    rfl
  · have hw : wrap64 ((i : Int) + (1 : Nat)) = ((i + 1 : Nat) : Int) := w_succ i (by omega)
    rw [h1, h3, hw, if_pos (by omega), if_pos (by omega), if_pos (by omega), if_pos (by omega), if_pos (by omega), Option.bind_some]
    simp only [Int.toNat_natCast]
    congr 1
    refine Prod.ext ?_ (Prod.ext ?_ rfl)
    · refine L_inj ?_
      rw [L_extract, List.drop_zero, Nat.sub_zero]; rfl
    · refine L_inj ?_
      rw [L_extract, List.take_of_length_le (by rw [List.length_drop]; omega)]; rfl
theorem cutL_sizes (l : List UInt8) : (cutL l).1.length ≤ l.length ∧ (cutL l).2.1.length ≤ l.length := by
  rcases cutL_index l with ⟨-, h⟩ | ⟨i, -, h2, h⟩
  · rw [h]; simp
  · rw [h]; simp only [List.length_take, List.length_drop]; omega

/-! ### versions -/
structure Ver where
  a : List UInt8
  b : List UInt8
  c : List UInt8
  p : List (List UInt8)
def coreL (l : List UInt8) : Option (List UInt8 × List UInt8 × List UInt8) := match partsL 46 l with
  | [a, b, c] => if numL a && numL b && numL c then some (a, b, c) else none
  | _ => none
def splitC (core pre : List UInt8) (has : Bool) : Option Ver := match coreL core with
  | some (a, b, c) => if has then (if (partsL 46 pre).all wordL then some ⟨a, b, c, partsL 46 pre⟩ else none) else some ⟨a, b, c, []⟩
  | none => none
def splitL : List UInt8 → Option Ver
  | [] => none
  | v :: t => if v = 118 then splitC (cutL t).1 (cutL t).2.1 (cutL t).2.2 else none
theorem splitL_cons (v : UInt8) (t : List UInt8) : splitL (v :: t) = if v = 118 then splitC (cutL t).1 (cutL t).2.1 (cutL t).2.2 else none := rfl
def verR : Option Ver → ByteArray × ByteArray × ByteArray × List ByteArray × Int
  | some v => (mkB v.a, mkB v.b, mkB v.c, v.p.map mkB, 0)
  | none => (⟨#[]⟩, ⟨#[]⟩, ⟨#[]⟩, [], 1)
theorem Split_loop (x : List ByteArray) (a b c : ByteArray) (p : List ByteArray) (hx : x.length ≤ 1000000001) (hm : ∀ s, s ∈ x → s.size ≤ 1000000000) (d : Nat) : ∀ i : Nat, i + d = x.length →
    Ev (fun k => version_Split.l0 k x x.length i a b c p) (if (x.drop i).all fun s => wordL (L s) then (a, b, c, p, 0) else (⟨#[]⟩, ⟨#[]⟩, ⟨#[]⟩, [], 1)) := by
  induction d with
  | zero =>
    intro i hi
    refine ev_step (fun k => by rw [version_Split.l0]) ?_
    refine ev_neg (by omega) (ev_now ?_)
    rw [List.drop_eq_nil_of_le (by omega)]; rfl
  | succ d ih =>
    intro i hi
    have hil : i < x.length := by omega
    refine ev_step (fun k => by rw [version_Split.l0]) ?_
    refine ev_pos (by omega) (ev_pos (by omega) (ev_pos (by omega) ?_))
    rw [rdOf_at _ x i hil, w_succ i (by omega), List.drop_eq_getElem_cons hil, List.all_cons]
    refine ev_bind (word_ev _ (hm _ (List.getElem_mem _))) ?_
    refine ev_ite (fun h => ?_) (fun h => ?_)
    · rw [h, Bool.true_and]
      exact ih (i + 1) (by omega)
    · have h' : wordL (L x[i]) = false := by simpa using h
      rw [h', Bool.false_and]
      exact ev_now rfl
theorem partsB_mk (c : UInt8) (l : List UInt8) : partsB c (mkB l) = (partsL c l).map mkB := rfl
theorem HasPrefix_v (s : ByteArray) : strings_HasPrefix.f s (⟨#[118]⟩ : ByteArray) = some (match L s with | [] => false | b :: _ => b == 118) := by
  have sz := L_size s
  unfold strings_HasPrefix.f stringslite_HasPrefix.f
  have h1 : (⟨#[118]⟩ : ByteArray).size = 1 := rfl
  rw [h1]
  cases hL : L s with
  | nil =>
    rw [hL] at sz
    simp only [List.length_nil] at sz
    rw [if_neg (by omega)]; rfl
  | cons b l =>
    rw [hL] at sz
    simp only [List.length_cons] at sz
    rw [if_pos (by omega), if_pos (by omega), if_pos (by omega), Option.bind_some]
    congr 1
    have : (s.extract 0 ((1 : Nat) : Int).toNat).toList = [b] := by
      rw [toList_L, L_extract, hL]; rfl
    rw [this]
    have h2 : (⟨#[118]⟩ : ByteArray).toList = [118] := by rw [toList_L]; rfl
    rw [h2]
    simp
theorem Split_ev (s : ByteArray) (hs : s.size ≤ 1000000) : Ev (fun k => version_Split.f k s) (verR (splitL (L s))) := by
  have sz := L_size s
  unfold version_Split.f
  rw [HasPrefix_v]
  refine ev_some ?_
  cases hL : L s with
  | nil => exact ev_neg (by decide) (ev_now rfl)
  | cons v t =>
    rw [hL] at sz
    simp only [List.length_cons] at sz
    by_cases hv : v = 118
    case neg => exact ev_neg (by simp [hv]) (ev_now (by rw [splitL_cons, if_neg hv]; rfl))
    refine ev_pos (by simp [hv]) (ev_pos (by omega) ?_)
    have ht : s.extract 1 s.size = mkB t := by
      refine L_inj ?_
      rw [L_extract, hL, L_mkB]
      show List.take _ t = t
      exact List.take_of_length_le (by omega)
    rw [ht, Cut_eq _ (by rw [mkB_size]; omega), L_mkB]
    simp only [Option.bind_some]
    rw [splitL_cons, if_pos hv]
    have hcs := cutL_sizes t
    generalize cutL t = ct at *
    obtain ⟨core, pre, has⟩ := ct
    simp only at hcs ⊢
    rw [Parts_eq _ 46 (by decide) (by decide) (by rw [mkB_size]; omega)]
    simp only [Option.bind_some]
    have h46 : (46 : Int).toNat.toUInt8 = 46 := rfl
    rw [h46, partsB_mk]
    have hcl := (partsL_length 46 core).1
    have hple := part_le 46 core
    have hbad : ∀ (x : ByteArray) (y : Bool) (z : List ByteArray), Ev (fun k => version_Split.j0 k x y z true) (verR none) := by
      intro x y z
      refine ev_step (fun k => by rw [version_Split.j0]) ?_
      exact ev_pos rfl (ev_now rfl)
    unfold splitC coreL
    rcases hpl : partsL 46 core with _ | ⟨a, _ | ⟨b, _ | ⟨c, _ | ⟨d, r⟩⟩⟩⟩
    · exact ev_neg (by decide) (hbad _ _ _)
    · exact ev_neg (by simp) (hbad _ _ _)
    · exact ev_neg (by simp) (hbad _ _ _)
    · rw [hpl] at hple
      have la := hple a (by simp)
      have lb := hple b (by simp)
      have lc := hple c (by simp)
      refine ev_pos rfl (ev_pos (by simp) ?_)
      have r0 : rdOf ByteArray.empty (List.map mkB [a, b, c]) 0 = mkB a := rfl
      have r1 : rdOf ByteArray.empty (List.map mkB [a, b, c]) 1 = mkB b := rfl
      have r2 : rdOf ByteArray.empty (List.map mkB [a, b, c]) 2 = mkB c := rfl
      rw [r0, r1, r2, number_May_eq _ (by rw [mkB_size]; omega), number_May_eq _ (by rw [mkB_size]; omega), number_May_eq _ (by rw [mkB_size]; omega), L_mkB, L_mkB, L_mkB]
      simp only [Option.bind_some]
      cases numL a with
      | false => exact ev_neg (by decide) (hbad _ _ _)
      | true =>
        refine ev_pos rfl (ev_pos (by simp) ?_)
        cases numL b with
        | false => exact ev_neg (by decide) (hbad _ _ _)
        | true =>
          refine ev_pos rfl (ev_pos (by simp) ?_)
          cases numL c with
          | false => exact hbad _ _ _
          | true =>
            refine ev_step (fun k => by rw [version_Split.j0]) ?_
            refine ev_neg (by decide) (ev_pos (by simp) (ev_pos (by simp) (ev_pos (by simp) ?_)))
            rw [r0, r1, r2]
            cases has with
            | false => exact ev_neg (by decide) (ev_now rfl)
            | true =>
              refine ev_pos rfl ?_
              rw [Parts_eq _ 46 (by decide) (by decide) (by rw [mkB_size]; omega), h46, partsB_mk]
              refine ev_some ?_
              have hpl2 := (partsL_length 46 pre).1
              have hp2 := part_le 46 pre
              have h := Split_loop ((partsL 46 pre).map mkB) (mkB a) (mkB b) (mkB c) ((partsL 46 pre).map mkB) (by rw [List.length_map]; omega) (fun x hx => by
                obtain ⟨y, hy, rfl⟩ := List.mem_map.1 hx
                have := hp2 y hy
                rw [mkB_size]; omega) ((partsL 46 pre).map mkB).length 0 (by omega)
              have he : (((partsL 46 pre).map mkB).drop 0).all (fun s => wordL (L s)) = (partsL 46 pre).all wordL := by
                rw [List.drop_zero, List.all_map]; rfl
              rw [he] at h
              simp only [Bool.and_self, if_true]
              revert h
              cases (partsL 46 pre).all wordL <;> exact fun h => h
    · exact ev_neg (by simp; omega) (hbad _ _ _)
def verOk (l : List UInt8) : Bool := (splitL l).isSome
theorem verMay_ev (s : ByteArray) (hs : s.size ≤ 1000000) : Ev (fun k => version_May.f k s) (verOk (L s)) := by
  unfold version_May.f
  refine ev_bind (Split_ev s hs) (ev_now ?_)
  unfold verOk
  cases splitL (L s) <;> rfl

/-! ### orders -/
structure Tot {α : Type} (c : α → α → Int) : Prop where
  flip : ∀ a b, c b a = - c a b
  zero : ∀ a b, c a b = 0 ↔ a = b
  trans : ∀ a b d, c a b ≤ 0 → c b d ≤ 0 → c a d ≤ 0
def lexC {α β : Type} (c1 : α → α → Int) (c2 : β → β → Int) (x y : α × β) : Int := if c1 x.1 y.1 = 0 then c2 x.2 y.2 else c1 x.1 y.1
def listC {α : Type} (c : α → α → Int) : List α → List α → Int
  | [], [] => 0
  | [], _ :: _ => -1
  | _ :: _, [] => 1
  | a :: x, b :: y => if c a b = 0 then listC c x y else c a b
/-- The words behind: none comes last. -/
def preV (x y : List (List UInt8)) : Int := if x.isEmpty || y.isEmpty then cmpI y.length x.length else listC wordsL x y
def verP (v : Ver) : List UInt8 × List UInt8 × List UInt8 × List (List UInt8) := (v.a, v.b, v.c, v.p)
def verC (x y : Ver) : Int := lexC numC (lexC numC (lexC numC preV)) (verP x) (verP y)
def cmpR (x y : Option Ver) : Int × Int := match x, y with
  | some v, some w => (verC v w, 0)
  | _, _ => (0, 1)
/-! ### put together -/
def joinV (v : Ver) : List UInt8 := 118 :: ((v.a ++ 46 :: (v.b ++ 46 :: v.c)) ++ (if v.p.isEmpty then [] else 45 :: joinL 46 v.p))
def verOkV (v : Ver) : Bool := numL v.a && numL v.b && numL v.c && v.p.all wordL
theorem num_all {l : List UInt8} (h : numL l = true) : allOf [1] l = true := by
  unfold numL at h
  simp only [Bool.and_eq_true] at h
  exact h.1.2
end Go.Proofs.YtjneghnknfhboaaDoor.Q

/-
  What the references of layers 2 (number) and 3 (version) come to.
-/
namespace Go.Proofs.YtjneghnknfhboaaDoor.Q
open Go.RowKit Go.Proofs.YtjneghnknfhboaaDoor.P Go.Proofs.YtjneghnknfhboaaDoorB Go.Proofs.YtjneghnknfhboaaDoorW.PrintWords Go.Proofs.YtjneghnknfhboaaDoorW.PrintLast Go.Proofs.YtjneghnknfhboaaDoorW.PrintMore
set_option linter.unusedSimpArgs false
set_option linter.unusedVariables false
def dig (c : Int) : Int := if c < 48 then -1 else if c > 57 then -1 else c - 48
theorem digit_eq (c : Int) (h0 : 0 ≤ c) (h1 : c < 256) : graftwoodref02_digit.f c = some (dig c) := by
  unfold graftwoodref02_digit.f dig
  split
  · rfl
  · split
    · rfl
    · rw [w_id (i := c) (by omega) (by omega), w_id (by omega) (by omega)]
theorem cls_one (c : Int) (h0 : 0 ≤ c) : ([1] : List Int).contains (clsOf c) = decide (0 ≤ dig c) := by
  unfold clsOf dig
  rw [Bool.eq_iff_iff, List.contains_iff_mem, List.mem_singleton, decide_eq_true_eq]
  repeat' split
  all_goals omega
theorem refNumMay_loop (s : ByteArray) (hs : (L s).length ≤ 1000000000) (d : Nat) : ∀ i : Nat, i + d = (L s).length → Ev (fun k => graftwoodref02_May.l0 k s i) (allOf [1] ((L s).drop i) && (!(L s).isEmpty && zeroOk (L s))) := by
  have sz := L_size s
  induction d with
  | zero =>
    intro i hi
    refine ev_step (fun k => by rw [graftwoodref02_May.l0]) ?_
    refine ev_neg (by omega) ?_
    rw [List.drop_eq_nil_of_le (by omega)]
    show Ev _ (!(L s).isEmpty && zeroOk (L s))
    cases hL : L s with
    | nil =>
      rw [hL] at sz
      simp only [List.length_nil] at sz
      exact ev_neg (by omega) (ev_neg (by omega) (ev_now rfl))
    | cons b l =>
      rw [hL] at sz
      simp only [List.length_cons] at sz
      have h0 : bt s 0 = (b.toNat : Int) := by
        have := bt_L s 0 (by rw [hL]; simp)
        simpa [hL] using this
      have hb48 : ((b.toNat : Int) = 48) ↔ b = 48 := ⟨fun e => UInt8.toNat_inj.1 (by have : (48 : UInt8).toNat = 48 := rfl; omega), fun e => by rw [e]; rfl⟩
      unfold zeroOk
      cases l with
      | nil =>
        simp only [List.length_nil] at sz
        exact ev_pos (by omega) (ev_now (by simp))
      | cons c l =>
        simp only [List.length_cons] at sz
        refine ev_neg (by omega) (ev_pos (by omega) (ev_pos (by omega) (ev_now ?_)))
        rw [h0]
        rw [Bool.eq_iff_iff, bne_iff_ne]
        simp [hb48]
  | succ d ih =>
    intro i hi
    have hil : i < (L s).length := by omega
    have hb := (L s)[i].toNat_lt
    refine ev_step (fun k => by rw [graftwoodref02_May.l0]) ?_
    refine ev_pos (by omega) (ev_pos (by omega) ?_)
    rw [bt_L s i hil, digit_eq _ (by omega) (by omega), w_succ i (by omega), List.drop_eq_getElem_cons hil]
    refine ev_some ?_
    have hc : allOf [1] ((L s)[i] :: (L s).drop (i + 1)) = (decide (0 ≤ dig ((L s)[i].toNat : Int)) && allOf [1] ((L s).drop (i + 1))) := by
      unfold allOf
      rw [List.all_cons, cls_one _ (by omega)]
    rw [hc]
    refine ev_ite (fun h => ?_) (fun h => ?_)
    · rw [decide_eq_false (by omega)]; exact ev_now rfl
    · rw [decide_eq_true (by omega), Bool.true_and]
      exact ih (i + 1) (by omega)
theorem refNumMay_ev (s : ByteArray) (hs : s.size ≤ 1000000000) : Ev (fun k => graftwoodref02_May.f k s) (numL (L s)) := by
  unfold graftwoodref02_May.f
  have h := refNumMay_loop s (by rw [L_size]; exact hs) (L s).length 0 (by omega)
  rw [List.drop_zero] at h
  have e : (allOf [1] (L s) && (!(L s).isEmpty && zeroOk (L s))) = numL (L s) := by
    unfold numL
    cases allOf [1] (L s) <;> cases (L s).isEmpty <;> cases zeroOk (L s) <;> rfl
  rw [e] at h
  exact h

/-! ### the reference's words -/
def wordB (b : UInt8) : Bool := clsOf b.toNat == 1 || clsOf b.toNat == 2 || b == 45
theorem wordB_eq (b : UInt8) : wordB b = (!([46, 95, 126] : List UInt8).contains b && ([1, 2, 3] : List Int).contains (clsOf b.toNat)) := by
  have h : ∀ n : Fin 256, wordB (UInt8.ofNat n.val) = (!([46, 95, 126] : List UInt8).contains (UInt8.ofNat n.val) && ([1, 2, 3] : List Int).contains (clsOf (UInt8.ofNat n.val).toNat)) := by decide +kernel
  have := h ⟨b.toNat, b.toNat_lt⟩
  simpa using this
theorem words_all (l : List UInt8) : l.all wordB = (!badL l && allOf [1, 2, 3] l) := by
  induction l with
  | nil => rfl
  | cons b l ih =>
    unfold badL allOf at ih ⊢
    rw [List.all_cons, List.any_cons, List.all_cons, ih, wordB_eq]
    cases ([46, 95, 126] : List UInt8).contains b <;> cases ([1, 2, 3] : List Int).contains (clsOf b.toNat) <;> cases (l.any fun b => ([46, 95, 126] : List UInt8).contains b) <;> simp
theorem refWord_loop (s : ByteArray) (hs : (L s).length ≤ 1000000000) (d : Nat) : ∀ (i : Nat) (g : Bool), i + d = (L s).length → Ev (fun k => graftwoodref03_Word.l0 k s g i) (((L s).drop i).all wordB && (!(L s).isEmpty && (if g && allOf [1] ((L s).drop i) then numL (L s) else true))) := by
  have sz := L_size s
  induction d with
  | zero =>
    intro i g hi
    refine ev_step (fun k => by rw [graftwoodref03_Word.l0]) ?_
    refine ev_neg (by omega) ?_
    rw [List.drop_eq_nil_of_le (by omega)]
    have hall : allOf [1] ([] : List UInt8) = true := rfl
    rw [hall, List.all_nil, Bool.true_and, Bool.and_true]
    refine ev_ite (fun h => ?_) (fun h => ?_)
    · have hne : (L s).isEmpty = false := by
        cases hL : L s with
        | nil => rw [hL] at sz; simp only [List.length_nil] at sz; omega
        | cons => rfl
      rw [hne]
      cases g with
      | true => exact ev_pos rfl (ev_last (refNumMay_ev s (by omega)))
      | false => exact ev_neg (by decide) (ev_now rfl)
    · have hne : (L s).isEmpty = true := by
        cases hL : L s with
        | nil => rfl
        | cons b l => rw [hL] at sz; simp only [List.length_cons] at sz; omega
      rw [hne]
      exact ev_now rfl
  | succ d ih =>
    intro i g hi
    have hil : i < (L s).length := by omega
    have hb := (L s)[i].toNat_lt
    refine ev_step (fun k => by rw [graftwoodref03_Word.l0]) ?_
    refine ev_pos (by omega) (ev_pos (by omega) ?_)
    rw [bt_L s i hil, w_succ i (by omega), List.drop_eq_getElem_cons hil, List.all_cons]
    refine ev_bind (refClass_ev _ (by omega) (by omega)) ?_
    have h45 : (((L s)[i].toNat : Int) = 45) ↔ (L s)[i] = 45 := ⟨fun e => UInt8.toNat_inj.1 (by have : (45 : UInt8).toNat = 45 := rfl; omega), fun e => by rw [e]; rfl⟩
    have hc : allOf [1] ((L s)[i] :: (L s).drop (i + 1)) = ((clsOf (L s)[i].toNat == 1) && allOf [1] ((L s).drop (i + 1))) := by
      unfold allOf
      rw [List.all_cons]
      congr 1
      rw [Bool.eq_iff_iff, List.contains_iff_mem, List.mem_singleton, beq_iff_eq]
    rw [hc]
    unfold wordB
    by_cases h1 : clsOf (L s)[i].toNat = 1
    · have e1 : (clsOf (L s)[i].toNat == 1) = true := beq_iff_eq.2 h1
      rw [e1]
      simp only [Bool.true_or, Bool.true_and]
      exact ev_pos h1 (ih (i + 1) g (by omega))
    · have e1 : (clsOf (L s)[i].toNat == 1) = false := beq_eq_false_iff_ne.2 h1
      rw [e1]
      refine ev_neg h1 ?_
      have hf := ih (i + 1) false (by omega)
      simp only [Bool.false_and, Bool.and_false, Bool.false_or, Bool.false_eq_true, if_false] at hf ⊢
      by_cases h2 : clsOf (L s)[i].toNat = 2
      · have e2 : (clsOf (L s)[i].toNat == 2) = true := beq_iff_eq.2 h2
        rw [e2, Bool.true_or, Bool.true_and]
        exact ev_pos h2 hf
      · have e2 : (clsOf (L s)[i].toNat == 2) = false := beq_eq_false_iff_ne.2 h2
        rw [e2, Bool.false_or]
        refine ev_neg h2 ?_
        by_cases h3 : (L s)[i] = 45
        · have e3 : ((L s)[i] == 45) = true := beq_iff_eq.2 h3
          rw [e3, Bool.true_and]
          exact ev_pos (h45.2 h3) hf
        · have e3 : ((L s)[i] == 45) = false := beq_eq_false_iff_ne.2 h3
          rw [e3, Bool.false_and]
          exact ev_neg (fun e => h3 (h45.1 e)) (ev_now rfl)
theorem refWord_ev (s : ByteArray) (hs : s.size ≤ 1000000000) : Ev (fun k => graftwoodref03_Word.f k s) (wordL (L s)) := by
  unfold graftwoodref03_Word.f
  have h := refWord_loop s (by rw [L_size]; exact hs) (L s).length 0 true (by omega)
  rw [List.drop_zero, words_all] at h
  have e : (!badL (L s) && allOf [1, 2, 3] (L s) && (!(L s).isEmpty && (if true && allOf [1] (L s) then numL (L s) else true))) = wordL (L s) := by
    unfold wordL
    have hn := @num_all (L s)
    cases h1 : allOf [1] (L s) <;> cases h2 : numL (L s) <;> cases badL (L s) <;> cases allOf [1, 2, 3] (L s) <;> cases (L s).isEmpty <;> first | rfl | (rw [h2] at hn; have := hn rfl; rw [h1] at this; cases this)
  rw [e] at h
  exact h
/-! ### the reference's Split -/
def fd : List UInt8 → Nat
  | [] => 0
  | b :: l => if b = 45 then 0 else fd l + 1
theorem fd_cut : ∀ l : List UInt8, fd l ≤ l.length ∧ cutL l = (l.take (fd l), l.drop (fd l + 1), decide (fd l < l.length))
  | [] => ⟨Nat.le_refl _, rfl⟩
  | b :: l => by
    obtain ⟨h1, h2⟩ := fd_cut l
    rw [fd, cutL]
    by_cases h : b = 45
    · rw [if_pos h, if_pos h]; exact ⟨by simp, by simp⟩
    · rw [if_neg h, if_neg h, h2]
      refine ⟨by simp only [List.length_cons]; omega, ?_⟩
      simp only [List.take_succ_cons, List.drop_succ_cons, List.length_cons, Nat.add_lt_add_iff_right]
def verB (o : Option Ver) : ByteArray × ByteArray × ByteArray × List ByteArray × Bool := match o with
  | some v => (mkB v.a, mkB v.b, mkB v.c, v.p.map mkB, true)
  | none => (⟨#[]⟩, ⟨#[]⟩, ⟨#[]⟩, [], false)
theorem refSplit_words (a b c : ByteArray) (p : List ByteArray) (hp : p.length ≤ 1000000001) (hm : ∀ s, s ∈ p → s.size ≤ 1000000000) (d : Nat) : ∀ i : Nat, i + d = p.length → Ev (fun k => graftwoodref03_Split.l1 k i a b c p) (if (p.drop i).all fun s => wordL (L s) then (a, b, c, p, true) else (⟨#[]⟩, ⟨#[]⟩, ⟨#[]⟩, [], false)) := by
  induction d with
  | zero =>
    intro i hi
    refine ev_step (fun k => by rw [graftwoodref03_Split.l1]) ?_
    refine ev_neg (by omega) (ev_now ?_)
    rw [List.drop_eq_nil_of_le (by omega)]; rfl
  | succ d ih =>
    intro i hi
    have hil : i < p.length := by omega
    refine ev_step (fun k => by rw [graftwoodref03_Split.l1]) ?_
    refine ev_pos (by omega) (ev_pos (by omega) ?_)
    rw [rdOf_at _ p i hil, w_succ i (by omega), List.drop_eq_getElem_cons hil, List.all_cons]
    refine ev_bind (refWord_ev _ (hm _ (List.getElem_mem _))) ?_
    refine ev_ite (fun h => ?_) (fun h => ?_)
    · rw [h, Bool.true_and]; exact ih (i + 1) (by omega)
    · have h' : wordL (L p[i]) = false := by simpa using h
      rw [h', Bool.false_and]; exact ev_now rfl
theorem refSplit_scan (s : ByteArray) (hs : (L s).length ≤ 1000000) (a b c : ByteArray) (r : ByteArray × ByteArray × ByteArray × List ByteArray × Bool) (hK : Ev (fun k => graftwoodref03_Split.l0 k s (fd (L s)) (-1) a b c) r) (d : Nat) : ∀ i : Nat, i = d → i ≤ (L s).length →
    Ev (fun k => graftwoodref03_Split.l0 k s ((i + fd ((L s).drop i) : Nat) : Int) ((i : Int) - 1) a b c) r := by
  have sz := L_size s
  induction d with
  | zero =>
    intro i hi _
    subst hi
    rw [List.drop_zero, Nat.zero_add]
    exact hK
  | succ d ih =>
    intro i hi hil
    have hlt : d < (L s).length := by omega
    have e : (i : Int) - 1 = (d : Int) := by omega
    rw [e]
    refine ev_step (fun k => by rw [graftwoodref03_Split.l0]) ?_
    refine ev_pos (by omega) (ev_pos (by omega) (ev_pos (by omega) ?_))
    rw [bt_L s d hlt, w_id (by omega) (by omega)]
    have h45 : (((L s)[d].toNat : Int) = 45) ↔ (L s)[d] = 45 := ⟨fun e => UInt8.toNat_inj.1 (by have : (45 : UInt8).toNat = 45 := rfl; omega), fun e => by rw [e]; rfl⟩
    have hn := ih d rfl (by omega)
    rw [List.drop_eq_getElem_cons hlt, fd] at hn
    refine ev_ite (fun h => ?_) (fun h => ?_)
    · rw [if_pos (h45.1 h), Nat.add_zero] at hn
      exact hn
    · rw [if_neg (fun x => h (h45.2 x))] at hn
      have e2 : d + (fd ((L s).drop (d + 1)) + 1) = i + fd ((L s).drop i) := by rw [hi]; omega
      rw [e2] at hn
      exact hn
theorem refSplit_ev (s : ByteArray) (hs : s.size ≤ 1000000) : Ev (fun k => graftwoodref03_Split.f k s) (verB (splitL (L s))) := by
  have sz := L_size s
  have hbad : Ev (fun k => graftwoodref03_Split.j0 k s true (⟨#[]⟩ : ByteArray) (⟨#[]⟩ : ByteArray) (⟨#[]⟩ : ByteArray)) (verB none) := by
    refine ev_step (fun k => by rw [graftwoodref03_Split.j0]) ?_
    exact ev_pos rfl (ev_now rfl)
  unfold graftwoodref03_Split.f
  cases hL : L s with
  | nil =>
    rw [hL] at sz
    simp only [List.length_nil] at sz
    exact ev_pos (by omega) hbad
  | cons v t =>
    have sz2 := sz
    rw [hL] at sz2
    simp only [List.length_cons] at sz2
    refine ev_neg (by omega) (ev_pos (by omega) ?_)
    have h0 : bt s 0 = (v.toNat : Int) := by
      have := bt_L s 0 (by rw [hL]; simp)
      simpa [hL] using this
    have h118 : ((v.toNat : Int) = 118) ↔ v = 118 := ⟨fun e => UInt8.toNat_inj.1 (by have : (118 : UInt8).toNat = 118 := rfl; omega), fun e => by rw [e]; rfl⟩
    rw [h0, splitL_cons]
    by_cases hv : v = 118
    case neg =>
      have : ((v.toNat : Int) != 118) = true := bne_iff_ne.2 (fun e => hv (h118.1 e))
      rw [this, if_neg hv]
      exact hbad
    have hv2 : ((v.toNat : Int) != 118) = false := by rw [h118.2 hv]; rfl
    rw [hv2, if_pos hv]
    refine ev_step (fun k => by rw [graftwoodref03_Split.j0]) ?_
    refine ev_neg (by decide) ?_
    rw [w_id (by omega) (by omega)]
    obtain ⟨hf1, hf2⟩ := fd_cut t
    have hfd : fd (L s) = fd t + 1 := by rw [hL, fd, if_neg (by rw [hv]; decide)]
    have hscan := refSplit_scan s (by omega) (⟨#[]⟩ : ByteArray) (⟨#[]⟩ : ByteArray) (⟨#[]⟩ : ByteArray) (verB (splitC (cutL t).1 (cutL t).2.1 (cutL t).2.2)) ?_ s.size s.size rfl (by omega)
    · rw [show (L s).drop s.size = [] from List.drop_eq_nil_of_le (by omega)] at hscan
      exact hscan
    -- behind the scan
    rw [hfd]
    refine ev_step (fun k => by rw [graftwoodref03_Split.l0]) ?_
    refine ev_neg (by decide) (ev_pos (by omega) (ev_pos (by omega) ?_))
    have hcore : s.extract 1 ((fd t + 1 : Nat) : Int).toNat = mkB (t.take (fd t)) := by
      refine L_inj ?_
      rw [L_extract, hL, L_mkB, Int.toNat_natCast]; rfl
    rw [hcore, hf2]
    simp only
    refine ev_bind (refParts_ev _ 46 (by decide) (by decide) (by rw [mkB_size, List.length_take]; omega)) ?_
    have h46 : (46 : Int).toNat.toUInt8 = 46 := rfl
    rw [h46, partsB_mk]
    have hple := part_le 46 (t.take (fd t))
    rw [List.length_take] at hple
    have hbad2 : ∀ (x : Int) (y : List ByteArray), Ev (fun k => graftwoodref03_Split.j2 k s x y true (⟨#[]⟩ : ByteArray) (⟨#[]⟩ : ByteArray) (⟨#[]⟩ : ByteArray)) (verB none) := by
      intro x y
      refine ev_step (fun k => by rw [graftwoodref03_Split.j2]) ?_
      exact ev_pos rfl (ev_now rfl)
    unfold splitC coreL
    rcases hpl : partsL 46 (t.take (fd t)) with _ | ⟨a, _ | ⟨b, _ | ⟨c, _ | ⟨d, r⟩⟩⟩⟩
    · exact ev_neg (by decide) (hbad2 _ _)
    · exact ev_neg (by simp) (hbad2 _ _)
    · exact ev_neg (by simp) (hbad2 _ _)
    · rw [hpl] at hple
      have la := hple a (by simp)
      have lb := hple b (by simp)
      have lc := hple c (by simp)
      refine ev_pos rfl (ev_pos (by simp) ?_)
      have r0 : rdOf ByteArray.empty (List.map mkB [a, b, c]) 0 = mkB a := rfl
      have r1 : rdOf ByteArray.empty (List.map mkB [a, b, c]) 1 = mkB b := rfl
      have r2 : rdOf ByteArray.empty (List.map mkB [a, b, c]) 2 = mkB c := rfl
      have ea := refNumMay_ev (mkB a) (by rw [mkB_size]; omega)
      have eb := refNumMay_ev (mkB b) (by rw [mkB_size]; omega)
      have ec := refNumMay_ev (mkB c) (by rw [mkB_size]; omega)
      rw [L_mkB] at ea eb ec
      rw [r0, r1, r2]
      simp only
      obtain ⟨na, hna⟩ : ∃ x, numL a = x := ⟨_, rfl⟩
      obtain ⟨nb, hnb⟩ : ∃ x, numL b = x := ⟨_, rfl⟩
      obtain ⟨nc, hnc⟩ : ∃ x, numL c = x := ⟨_, rfl⟩
      rw [hna] at ea
      rw [hnb] at eb
      rw [hnc] at ec
      simp only [hna, hnb, hnc]
      refine ev_bind ea ?_
      cases na with
      | false => exact ev_neg (by decide) (hbad2 _ _)
      | true =>
        refine ev_pos rfl (ev_pos (by simp) (ev_bind eb ?_))
        cases nb with
        | false => exact ev_neg (by decide) (hbad2 _ _)
        | true =>
          refine ev_pos rfl (ev_pos (by simp) (ev_bind ec ?_))
          cases nc with
          | false => exact hbad2 _ _
          | true =>
            refine ev_step (fun k => by rw [graftwoodref03_Split.j2]) ?_
            refine ev_neg (by decide) (ev_pos (by simp) (ev_pos (by simp) (ev_pos (by simp) ?_)))
            rw [r0, r1, r2]
            refine ev_ite (fun h => ?_) (fun h => ?_)
            · have hd : decide (fd t < t.length) = false := decide_eq_false (by omega)
              rw [hd]
              exact ev_now rfl
            · have hd : decide (fd t < t.length) = true := decide_eq_true (by omega)
              rw [hd, w_id (by omega) (by omega)]
              refine ev_pos (by omega) (ev_pos (by omega) ?_)
              have hpre : s.extract (((fd t + 1 : Nat) : Int) + 1).toNat s.size = mkB (t.drop (fd t + 1)) := by
                refine L_inj ?_
                have e : (((fd t + 1 : Nat) : Int) + 1).toNat = fd t + 1 + 1 := by omega
                rw [L_extract, hL, L_mkB, e, List.drop_succ_cons]
                exact List.take_of_length_le (by rw [List.length_drop]; omega)
              rw [hpre]
              refine ev_bind (refParts_ev _ 46 (by decide) (by decide) (by rw [mkB_size, List.length_drop]; omega)) ?_
              rw [h46, partsB_mk]
              have hpl2 := (partsL_length 46 (t.drop (fd t + 1))).1
              have hp2 := part_le 46 (t.drop (fd t + 1))
              rw [List.length_drop] at hpl2 hp2
              have hh := refSplit_words (mkB a) (mkB b) (mkB c) ((partsL 46 (t.drop (fd t + 1))).map mkB) (by rw [List.length_map]; omega) (fun x hx => by
                obtain ⟨y, hy, rfl⟩ := List.mem_map.1 hx
                have := hp2 y hy
                rw [mkB_size]; omega) ((partsL 46 (t.drop (fd t + 1))).map mkB).length 0 (by omega)
              have he : (((partsL 46 (t.drop (fd t + 1))).map mkB).drop 0).all (fun s => wordL (L s)) = (partsL 46 (t.drop (fd t + 1))).all wordL := by
                rw [List.drop_zero, List.all_map]; rfl
              rw [he] at hh
              simp only [Bool.and_self, if_true]
              revert hh
              cases (partsL 46 (t.drop (fd t + 1))).all wordL <;> exact fun h => h
    · exact ev_neg (by simp; omega) (hbad2 _ _)
theorem refVerMay_ev (s : ByteArray) (hs : s.size ≤ 1000000) : Ev (fun k => graftwoodref03_May.f k s) (verOk (L s)) := by
  unfold graftwoodref03_May.f
  refine ev_bind (refSplit_ev s hs) (ev_now ?_)
  unfold verOk
  cases splitL (L s) <;> rfl
end Go.Proofs.YtjneghnknfhboaaDoor.Q

/-
  What the printed functions of layer 4 (path) and its reference come to.
-/
namespace Go.Proofs.YtjneghnknfhboaaDoor.Q
open Go.RowKit Go.Proofs.YtjneghnknfhboaaDoor.P Go.Proofs.YtjneghnknfhboaaDoorB Go.Proofs.YtjneghnknfhboaaDoorW.PrintWords Go.Proofs.YtjneghnknfhboaaDoorW.PrintLast Go.Proofs.YtjneghnknfhboaaDoorW.PrintMore
set_option linter.unusedSimpArgs false

/-- Is a text a path? -/
def isPath (l : List UInt8) : Bool := (partsL 47 l).all elemL
def withinL (p q : List UInt8) : Bool := isPath p && isPath q && (p ++ [47]).isPrefixOf (q ++ [47])

theorem elem_eq (s : ByteArray) (hs : s.size ≤ 1000000000) : path_element.f s = some (elemL (L s)) := by
  unfold path_element.f
  rw [if_pos hs]
  rfl
theorem Elements_loop (x l : List ByteArray) (hl : l.length ≤ 1000000001) (hm : ∀ s, s ∈ l → s.size ≤ 1000000000) (d : Nat) : ∀ i : Nat, i + d = l.length →
    Ev (fun k => path_Elements.l0 k x l l.length i) (if (l.drop i).all fun s => elemL (L s) then (x, 0) else ([], 1)) := by
  induction d with
  | zero =>
    intro i hi
    refine ev_step (fun k => by rw [path_Elements.l0]) ?_
    refine ev_neg (by omega) (ev_now ?_)
    rw [List.drop_eq_nil_of_le (by omega)]; rfl
  | succ d ih =>
    intro i hi
    have hil : i < l.length := by omega
    refine ev_step (fun k => by rw [path_Elements.l0]) ?_
    refine ev_pos (by omega) (ev_pos (by omega) (ev_pos (by omega) ?_))
    rw [rdOf_at _ l i hil, elem_eq _ (hm _ (List.getElem_mem _)), w_succ i (by omega), List.drop_eq_getElem_cons hil, List.all_cons]
    refine ev_some ?_
    refine ev_ite (fun h => ?_) (fun h => ?_)
    · rw [h, Bool.true_and]
      exact ih (i + 1) (by omega)
    · have h' : elemL (L l[i]) = false := by simpa using h
      rw [h', Bool.false_and]
      exact ev_now rfl
theorem Elements_ev (s : ByteArray) (hs : s.size ≤ 1000000000) : Ev (fun k => path_Elements.f k s) (if isPath (L s) then (partsB 47 s, 0) else ([], 1)) := by
  unfold path_Elements.f
  have hl := (partsL_length 47 (L s)).1
  have hz := L_size s
  rw [Parts_eq s 47 (by decide) (by decide) hs]
  refine ev_some ?_
  have h := Elements_loop (partsB 47 s) (partsB 47 s) (by rw [partsB_length]; omega) (fun p hp => by
    simp only [partsB, List.mem_map] at hp
    obtain ⟨q, hq, rfl⟩ := hp
    have := part_le 47 (L s) q hq
    rw [← L_size, L_mk]; omega) (partsB 47 s).length 0 (by omega)
  have he : ((partsB 47 s).drop 0).all (fun s => elemL (L s)) = isPath (L s) := by
    unfold isPath partsB
    rw [List.drop_zero, List.all_map]
    rfl
  rw [he] at h
  exact h
theorem May_ev (s : ByteArray) (hs : s.size ≤ 1000000000) : Ev (fun k => path_May.f k s) (isPath (L s)) := by
  unfold path_May.f
  refine ev_bind (Elements_ev s hs) (ev_now ?_)
  cases isPath (L s) <;> rfl


/-! ### the reference -/
theorem elemOk_iff (b : UInt8) : elemOk b = true ↔ ¬ clsOf b.toNat < 1 ∧ ¬ clsOf b.toNat > 3 := by
  unfold elemOk
  have := clsOf_range b.toNat
  simp only [List.contains_iff_mem, List.mem_cons, List.not_mem_nil, or_false]
  omega
theorem refElem_loop (s : ByteArray) (hs : (L s).length ≤ 1000000000) (d : Nat) : ∀ i : Nat, i + d = (L s).length → Ev (fun k => graftwoodref04_Element.l0 k s i) (((L s).drop i).all elemOk) := by
  have sz := L_size s
  induction d with
  | zero =>
    intro i hi
    refine ev_step (fun k => by rw [graftwoodref04_Element.l0]) ?_
    refine ev_neg (by omega) (ev_now ?_)
    rw [List.drop_eq_nil_of_le (by omega)]; rfl
  | succ d ih =>
    intro i hi
    have hil : i < (L s).length := by omega
    have hb := (L s)[i].toNat_lt
    refine ev_step (fun k => by rw [graftwoodref04_Element.l0]) ?_
    refine ev_pos (by omega) (ev_pos (by omega) ?_)
    rw [bt_L s i hil, List.drop_eq_getElem_cons hil, List.all_cons, w_succ i (by omega)]
    refine ev_bind (refClass_ev _ (by omega) (by omega)) ?_
    by_cases hok : elemOk (L s)[i] = true
    · have h := (elemOk_iff _).1 hok
      rw [hok, Bool.true_and]
      exact ev_neg h.1 (ev_neg h.2 (ih (i + 1) (by omega)))
    · have hno : elemOk (L s)[i] = false := by simpa using hok
      rw [hno, Bool.false_and]
      refine ev_ite (fun _ => ev_now rfl) (fun h1 => ?_)
      exact ev_pos (Decidable.byContradiction fun h3 => hok ((elemOk_iff _).2 ⟨h1, h3⟩)) (ev_now rfl)
theorem refElem_ev (s : ByteArray) (hs : s.size ≤ 1000000000) : Ev (fun k => graftwoodref04_Element.f k s) (elemL (L s)) := by
  have sz := L_size s
  unfold graftwoodref04_Element.f
  have hj : ∀ b : Bool, elemL (L s) = (!b && (L s).all elemOk) → Ev (fun k => graftwoodref04_Element.j0 k s b) (elemL (L s)) := by
    intro b hb
    refine ev_step (fun k => by rw [graftwoodref04_Element.j0]) ?_
    cases b with
    | true => exact ev_pos rfl (ev_now (by rw [hb]; rfl))
    | false =>
      refine ev_neg (by simp) ?_
      have h := refElem_loop s (by omega) (L s).length 0 (by omega)
      rw [List.drop_zero] at h
      rw [hb]
      exact h
  cases hL : L s with
  | nil =>
    rw [hL] at sz hj
    simp only [List.length_nil] at sz
    exact ev_pos (by omega) (hj _ rfl)
  | cons b t =>
    rw [hL] at sz hj
    simp only [List.length_cons] at sz
    refine ev_neg (by omega) (ev_pos (by omega) ?_)
    have h0 : bt s 0 = (b.toNat : Int) := by
      have := bt_L s 0 (by rw [hL]; simp)
      simpa [hL] using this
    have hlast : lastR (b :: t) = (((b :: t).getLast (by simp)).toNat : Int) := by
      unfold lastR
      rw [List.getLast?_eq_some_getLast (by simp)]
      rfl
    have hl : bt s (wrap64 ((s.size : Int) - 1)) = lastR (b :: t) := by
      have e : wrap64 ((s.size : Int) - 1) = (t.length : Int) := by rw [w_id (by omega) (by omega)]; omega
      have := bt_L s t.length (by rw [hL]; simp)
      rw [e, this, hlast, List.getLast_eq_getElem]
      congr 2
      simp [hL]
    rw [h0, hl]
    have hb46 : ((b.toNat : Int) = 46) ↔ b = 46 := ⟨fun e => UInt8.toNat_inj.1 (by have : (46 : UInt8).toNat = 46 := rfl; omega), fun e => by rw [e]; rfl⟩
    have hval : elemL (b :: t) = ((b :: t).all elemOk && !(b == 46) && !(lastR (b :: t) == 46)) := by
      unfold elemL elemPre
      simp
    refine ev_ite (fun h => ?_) (fun h => ?_)
    · refine hj _ ?_
      rw [hval, hb46.1 h]
      simp
    · have hbn : (b == 46) = false := beq_eq_false_iff_ne.2 (fun e => h (hb46.2 e))
      refine ev_pos (by rw [w_id (by omega) (by omega)]; omega) (ev_pos (by rw [w_id (by omega) (by omega)]; omega) (hj _ ?_))
      rw [hval, hbn]
      cases (b :: t).all elemOk <;> cases (lastR (b :: t) == 46) <;> rfl
theorem refMay4_loop (l : List ByteArray) (hl : l.length ≤ 1000000001) (hm : ∀ s, s ∈ l → s.size ≤ 1000000000) (d : Nat) : ∀ i : Nat, i + d = l.length →
    Ev (fun k => graftwoodref04_May.l0 k l i) ((l.drop i).all fun s => elemL (L s)) := by
  induction d with
  | zero =>
    intro i hi
    refine ev_step (fun k => by rw [graftwoodref04_May.l0]) ?_
    refine ev_neg (by omega) (ev_now ?_)
    rw [List.drop_eq_nil_of_le (by omega)]; rfl
  | succ d ih =>
    intro i hi
    have hil : i < l.length := by omega
    refine ev_step (fun k => by rw [graftwoodref04_May.l0]) ?_
    refine ev_pos (by omega) (ev_pos (by omega) ?_)
    rw [rdOf_at _ l i hil, w_succ i (by omega), List.drop_eq_getElem_cons hil, List.all_cons]
    refine ev_bind (refElem_ev _ (hm _ (List.getElem_mem _))) ?_
    refine ev_ite (fun h => ?_) (fun h => ?_)
    · rw [h, Bool.true_and]
      exact ih (i + 1) (by omega)
    · have h' : elemL (L l[i]) = false := by simpa using h
      rw [h', Bool.false_and]
      exact ev_now rfl
theorem refMay4_ev (s : ByteArray) (hs : s.size ≤ 1000000000) : Ev (fun k => graftwoodref04_May.f k s) (isPath (L s)) := by
  unfold graftwoodref04_May.f
  have hl := (partsL_length 47 (L s)).1
  have hz := L_size s
  refine ev_bind (refParts_ev s 47 (by decide) (by decide) hs) ?_
  have h := refMay4_loop (partsB 47 s) (by rw [partsB_length]; omega) (fun p hp => by
    simp only [partsB, List.mem_map] at hp
    obtain ⟨q, hq, rfl⟩ := hp
    have := part_le 47 (L s) q hq
    rw [← L_size, L_mk]; omega) (partsB 47 s).length 0 (by omega)
  have he : ((partsB 47 s).drop 0).all (fun s => elemL (L s)) = isPath (L s) := by
    unfold isPath partsB
    rw [List.drop_zero, List.all_map]
    rfl
  rw [he] at h
  exact h
end Go.Proofs.YtjneghnknfhboaaDoor.Q

/-
  What the printed functions of layers 5 (node) and 10 (intern) come to.
-/
namespace Go.Proofs.YtjneghnknfhboaaDoor.Q
open Go.RowKit Go.Proofs.YtjneghnknfhboaaDoor.P Go.Proofs.YtjneghnknfhboaaDoorB Go.Proofs.YtjneghnknfhboaaDoorW.PrintWords Go.Proofs.YtjneghnknfhboaaDoorW.PrintLast Go.Proofs.YtjneghnknfhboaaDoorW.PrintMore
set_option linter.unusedSimpArgs false
set_option linter.unusedVariables false
abbrev Nd := S34
theorem rdN_at (l : List Nd) (i : Nat) (h : i < l.length) : rd_T34 l (i : Int) = l[i] := by
  simp [rd_T34, List.getD_eq_getElem?_getD, h]
theorem rdI_at (l : List Int) (i : Nat) (h : i < l.length) : rd l (i : Int) = l[i] := by
  simp [rd, List.getD_eq_getElem?_getD, h]

/-! ### nodes -/
def nodeOk (n : Nd) : Bool := isPath (L n.f0) && verOk (L n.f1)
theorem nodeMay_ev (p v : ByteArray) (hp : p.size ≤ 1000000) (hv : v.size ≤ 1000000) : Ev (fun k => node_May.f k p v) (isPath (L p) && verOk (L v)) := by
  unfold node_May.f
  refine ev_bind (May_ev p (by omega)) ?_
  cases isPath (L p) with
  | false => exact ev_neg (by decide) (ev_now rfl)
  | true => exact ev_pos rfl (ev_last (verMay_ev v hv))
def fewN (n : Nd) : Nd := ⟨few n.f0, few n.f1⟩
def fewL (l : List Nd) : List Nd := (l.take 24).map fewN
def smallL (l : List Nd) : Prop := ∀ n, n ∈ l → n.f0.size ≤ 400 ∧ n.f1.size ≤ 400
theorem few_small (l : List Nd) : smallL (fewL l) := by
  intro n hn
  obtain ⟨x, -, rfl⟩ := List.mem_map.1 hn
  exact ⟨few_size _, few_size _⟩
theorem fewL_len (l : List Nd) : (fewL l).length ≤ 24 := by unfold fewL; rw [List.length_map, List.length_take]; omega
theorem few5_loop (l : List Nd) (d : Nat) : ∀ (i : Nat) (p : List Nd), i + d = min l.length 24 → p.length = i → Ev (fun k => graftwoodlaw05_Few.l0 k l p i) (p ++ ((l.take 24).drop i).map fewN) := by
  induction d with
  | zero =>
    intro i p hi hp
    have hd : (l.take 24).drop i = [] := List.drop_eq_nil_of_le (by rw [List.length_take]; omega)
    rw [hd, List.map_nil, List.append_nil]
    refine ev_step (fun k => by rw [graftwoodlaw05_Few.l0]) ?_
    exact ev_ite (fun h => ev_neg (by omega) (ev_now rfl)) (fun _ => ev_now rfl)
  | succ d ih =>
    intro i p hi hp
    have hil : i < l.length := by omega
    refine ev_step (fun k => by rw [graftwoodlaw05_Few.l0]) ?_
    refine ev_pos (by omega) (ev_pos (by omega) (ev_pos (by omega) ?_))
    unfold graftwoodlaw05_One.f
    rw [rdN_at l i hil, Few_eq, Few_eq, w_succ i (by omega)]
    refine ev_some (ev_pos (by omega) ?_)
    have h := ih (i + 1) (p ++ [fewN l[i]]) (by omega) (by simp [hp])
    have hd : (l.take 24).drop i = l[i] :: (l.take 24).drop (i + 1) := by
      rw [List.drop_eq_getElem_cons (by rw [List.length_take]; omega), List.getElem_take]
    rw [hd, List.map_cons]
    rw [List.append_assoc] at h
    exact h
theorem few5_ev (l : List Nd) : Ev (fun k => graftwoodlaw05_Few.f k l) (fewL l) := by
  unfold graftwoodlaw05_Few.f
  exact few5_loop l (min l.length 24) 0 [] (by omega) rfl
theorem few10_ev (l : List Nd) : Ev (fun k => graftwoodlaw10_Few.f k l) (fewL l) := by
  unfold graftwoodlaw10_Few.f
  exact ev_last (few5_ev l)
theorem same5_loop (l : List Nd) (hl : l.length ≤ 1000000000) (d : Nat) : ∀ i : Nat, i + d = l.length → Ev (fun k => graftwoodref05_Same.l0 k l l i) true := by
  induction d with
  | zero =>
    intro i hi
    refine ev_step (fun k => by rw [graftwoodref05_Same.l0]) ?_
    exact ev_neg (by omega) (ev_now rfl)
  | succ d ih =>
    intro i hi
    have hil : i < l.length := by omega
    refine ev_step (fun k => by rw [graftwoodref05_Same.l0]) ?_
    refine ev_pos (by omega) (ev_pos (by omega) (ev_pos (by omega) (ev_neg (by simp) ?_)))
    rw [w_succ i (by omega)]
    exact ih (i + 1) (by omega)
theorem same5_ev (l : List Nd) (hl : l.length ≤ 1000000000) : Ev (fun k => graftwoodref05_Same.f k l l) true := by
  unfold graftwoodref05_Same.f
  exact ev_pos rfl (same5_loop l hl l.length 0 (by omega))
theorem same10_ev (l : List Nd) (hl : l.length ≤ 1000000000) : Ev (fun k => graftwoodlaw10_same.f k l l) true := by
  unfold graftwoodlaw10_same.f
  exact ev_last (same5_ev l hl)

def ixOf (n : Nd) (l : List Nd) : Option Nat := ixN n.f0 n.f1 l
def grow1 (n : Nd) (l : List Nd) : List Nd := match ixOf n l with
  | some _ => l
  | none => l ++ [n]
def placeOf (n : Nd) (l : List Nd) : Nat := match ixOf n l with
  | some i => i
  | none => l.length
def grow : List Nd → List Nd → List Nd
  | [], m => m
  | n :: l, m => grow l (grow1 n m)
def idsOf : List Nd → List Nd → List Int
  | [], _ => []
  | n :: l, m => (placeOf n m : Int) :: idsOf l (grow1 n m)
theorem grow_same : ∀ (l m : List Nd), (∀ n, n ∈ l → (ixOf n m).isSome = true) → grow l m = m
  | [], m, _ => rfl
  | n :: l, m, h => by
    have hn := h n (by simp)
    have e : grow1 n m = m := by
      unfold grow1
      cases hx : ixOf n m with
      | some i => rfl
      | none => rw [hx] at hn; cases hn
    rw [grow, e]
    exact grow_same l m (fun x hx => h x (List.mem_cons_of_mem _ hx))
/-! ### which names may be -/
def tabL : List Nd → List Nd → Bool
  | [], _ => true
  | n :: l, seen => !(ixOf n seen).isSome && nodeOk n && tabL l (seen ++ [n])
theorem small_tail {n : Nd} {l : List Nd} (h : smallL (n :: l)) : smallL l := fun x hx => h x (List.mem_cons_of_mem _ hx)
theorem tabGo_ev : ∀ (l seen : List Nd), smallL l → Ev (fun k => tabGo k l seen) (tabL l seen)
  | [], seen, _ => by simp only [tabGo]; exact ev_now rfl
  | n :: l, seen, hS => by
    obtain ⟨h0, h1⟩ := hS n (by simp)
    simp only [tabGo]
    have hok : okN n.f0 n.f1 = true := by unfold okN; rw [decide_eq_true_eq]; omega
    rw [tabL]
    unfold ixOf nodeOk
    refine ev_pos hok (ev_ite (fun h => ?_) (fun h => ?_))
    · rw [h]; exact ev_now rfl
    · have h' : (ixN n.f0 n.f1 seen).isSome = false := by simpa using h
      rw [h', Bool.not_false, Bool.true_and]
      refine ev_bind (nodeMay_ev n.f0 n.f1 (by omega) (by omega)) ?_
      cases isPath (L n.f0) && verOk (L n.f1) with
      | false => exact ev_neg (by decide) (ev_now rfl)
      | true => exact ev_pos rfl (tabGo_ev l (seen ++ [n]) (small_tail hS))
def namesOk (l : List Nd) : Bool := tabL l []
theorem tabF_ev (l : List Nd) (hS : smallL l) (hl : l.length ≤ 1000000000) : Ev (fun k => tabF k l) (namesOk l) := by
  unfold tabF
  exact ev_pos hl (tabGo_ev l [] hS)
/-! ### Check, Find, At, All -/
theorem Check_ev (l : List Nd) (hS : smallL l) (hl : l.length ≤ 1000000000) : Ev (fun k => intern_Check.f k l) (if namesOk l = true then 0 else 1) := by
  unfold intern_Check.f
  exact ev_bind (tabF_ev l hS hl) (ev_now rfl)
theorem At_ev (l : List Nd) (hS : smallL l) (hl : l.length ≤ 1000000000) (hok : namesOk l = true) (ids : List Int) (hi : ids.length ≤ 1000000000) (r : List Nd × Int) (hr : atGo l ids [] = some r) : Ev (fun k => intern_At.f k l ids) r := by
  have h := tabF_ev l hS hl
  rw [hok] at h
  unfold intern_At.f
  exact ev_bind h (ev_pos rfl (ev_pos hi (ev_const hr)))
theorem atGo_one (l : List Nd) (i : Nat) (h : i < l.length) : atGo l [(i : Int)] [] = some ([l[i]], 0) := by
  rw [atGo, if_pos ⟨by omega, by omega⟩, rdN_at l i h]
  rfl
theorem allGo_ev (m : List Nd) : ∀ (l names : List Nd) (out : List Int), smallL l → Ev (fun k => allGo k m l names out) (if (l.all nodeOk) = true then (out ++ idsOf l names, grow l names, 0) else ([], m, 1))
  | [], names, out, _ => by simp only [allGo, idsOf, grow, List.append_nil, List.all_nil, if_true]; exact ev_now rfl
  | n :: l, names, out, hS => by
    obtain ⟨h0, h1⟩ := hS n (by simp)
    have hok : okN n.f0 n.f1 = true := by unfold okN; rw [decide_eq_true_eq]; omega
    simp only [allGo]
    rw [List.all_cons]
    unfold nodeOk
    refine ev_bind (nodeMay_ev n.f0 n.f1 (by omega) (by omega)) ?_
    cases isPath (L n.f0) && verOk (L n.f1) with
    | false => exact ev_neg (by decide) (ev_now rfl)
    | true =>
      rw [Bool.true_and]
      refine ev_pos rfl (ev_pos hok ?_)
      rw [idsOf, grow]
      unfold placeOf grow1 ixOf
      cases ixN n.f0 n.f1 names with
      | some i =>
        have h := allGo_ev m l names (out ++ [(i : Int)]) (small_tail hS)
        rw [List.append_assoc] at h
        exact h
      | none =>
        have h := allGo_ev m l (names ++ [n]) (out ++ [(names.length : Int)]) (small_tail hS)
        rw [List.append_assoc] at h
        exact h
theorem All_ev (m l : List Nd) (hm : smallL m) (hl : smallL l) (hz : m.length + l.length ≤ 1000000000) : Ev (fun k => intern_All.f k m l) (if (namesOk m && l.all nodeOk) = true then (idsOf l m, grow l m, 0) else ([], m, 1)) := by
  unfold intern_All.f
  refine ev_bind (tabF_ev m hm (by omega)) ?_
  cases namesOk m with
  | false => exact ev_neg (by decide) (ev_now rfl)
  | true =>
    refine ev_pos rfl (ev_pos hz ?_)
    have h := allGo_ev m l m [] hl
    rw [List.nil_append] at h
    rw [Bool.true_and]
    exact h
theorem awake10_ev : Ev (fun k => graftwoodlaw10_awake.f k) true := by
  have hn : nodeOk ⟨⟨#[97]⟩, ⟨#[118, 49, 46, 48, 46, 48]⟩⟩ = true := by decide +kernel
  have s1 : smallL [(⟨⟨#[97]⟩, ⟨#[118, 49, 46, 48, 46, 48]⟩⟩ : Nd)] := by
    intro x hx
    rw [List.mem_singleton.1 hx]
    exact ⟨by decide, by decide⟩
  have s0 : smallL [] := fun x hx => absurd hx (by simp)
  have hA : grow [(⟨⟨#[97]⟩, ⟨#[118, 49, 46, 48, 46, 48]⟩⟩ : Nd)] [] = [⟨⟨#[97]⟩, ⟨#[118, 49, 46, 48, 46, 48]⟩⟩] := rfl
  have hB : idsOf [(⟨⟨#[97]⟩, ⟨#[118, 49, 46, 48, 46, 48]⟩⟩ : Nd)] [] = [0] := rfl
  have hT : namesOk [(⟨⟨#[97]⟩, ⟨#[118, 49, 46, 48, 46, 48]⟩⟩ : Nd)] = true := by
    unfold namesOk
    rw [tabL, hn]; rfl
  have hI : ixOf (⟨⟨#[97]⟩, ⟨#[118, 49, 46, 48, 46, 48]⟩⟩ : Nd) [⟨⟨#[97]⟩, ⟨#[118, 49, 46, 48, 46, 48]⟩⟩] = some 0 := by
    unfold ixOf
    rw [ixN, if_pos ⟨rfl, rfl⟩]
  have hA2 : grow [(⟨⟨#[97]⟩, ⟨#[118, 49, 46, 48, 46, 48]⟩⟩ : Nd)] [⟨⟨#[97]⟩, ⟨#[118, 49, 46, 48, 46, 48]⟩⟩] = [⟨⟨#[97]⟩, ⟨#[118, 49, 46, 48, 46, 48]⟩⟩] := grow_same _ _ (fun x hx => by rw [List.mem_singleton.1 hx, hI]; rfl)
  have hB2 : idsOf [(⟨⟨#[97]⟩, ⟨#[118, 49, 46, 48, 46, 48]⟩⟩ : Nd)] [⟨⟨#[97]⟩, ⟨#[118, 49, 46, 48, 46, 48]⟩⟩] = [0] := by
    rw [idsOf, idsOf]
    unfold placeOf
    rw [hI]; rfl
  have e1 := All_ev [] _ s0 s1 (by decide)
  have e2 := All_ev _ _ s1 s1 (by decide)
  rw [hA, hB] at e1
  rw [hA2, hB2, hT] at e2
  rw [show (namesOk [] && [(⟨⟨#[97]⟩, ⟨#[118, 49, 46, 48, 46, 48]⟩⟩ : Nd)].all nodeOk) = true by rw [List.all_cons, hn]; rfl, if_pos rfl] at e1
  rw [show (true && [(⟨⟨#[97]⟩, ⟨#[118, 49, 46, 48, 46, 48]⟩⟩ : Nd)].all nodeOk) = true by rw [List.all_cons, hn]; rfl, if_pos rfl] at e2
  unfold graftwoodlaw10_awake.f
  have i1 : Ev (fun k => intern_Id.f k [] (⟨#[97]⟩ : ByteArray) (⟨#[118, 49, 46, 48, 46, 48]⟩ : ByteArray)) (0, [⟨⟨#[97]⟩, ⟨#[118, 49, 46, 48, 46, 48]⟩⟩], 0) := by
    unfold intern_Id.f
    exact ev_bind e1 (ev_pos rfl (ev_pos (by decide) (ev_now rfl)))
  have i2 : Ev (fun k => intern_Id.f k [⟨⟨#[97]⟩, ⟨#[118, 49, 46, 48, 46, 48]⟩⟩] (⟨#[97]⟩ : ByteArray) (⟨#[118, 49, 46, 48, 46, 48]⟩ : ByteArray)) (0, [⟨⟨#[97]⟩, ⟨#[118, 49, 46, 48, 46, 48]⟩⟩], 0) := by
    unfold intern_Id.f
    exact ev_bind e2 (ev_pos rfl (ev_pos (by decide) (ev_now rfl)))
  refine ev_bind i1 (ev_bind i2 ?_)
  refine ev_bind (At_ev _ s1 (by decide) hT [1] (by decide) ([], 2) (by rw [atGo, if_neg (by decide)])) ?_
  refine ev_bind (At_ev _ s1 (by decide) hT [0] (by decide) _ (atGo_one [(⟨⟨#[97]⟩, ⟨#[118, 49, 46, 48, 46, 48]⟩⟩ : Nd)] 0 (by decide))) ?_
  exact ev_pos ⟨rfl, rfl, rfl, rfl, rfl, rfl, rfl, rfl⟩ (ev_now rfl)
end Go.Proofs.YtjneghnknfhboaaDoor.Q

/-
  What the references of layers 5 (node: May, Has) and 10 (intern) come to.
-/
namespace Go.Proofs.YtjneghnknfhboaaDoor.Q
open Go.RowKit Go.Proofs.YtjneghnknfhboaaDoor.P Go.Proofs.YtjneghnknfhboaaDoorB Go.Proofs.YtjneghnknfhboaaDoorW.PrintWords Go.Proofs.YtjneghnknfhboaaDoorW.PrintLast Go.Proofs.YtjneghnknfhboaaDoorW.PrintMore
set_option linter.unusedSimpArgs false
set_option linter.unusedVariables false
theorem refMay5_ev (n : Nd) (hS : n.f0.size ≤ 400 ∧ n.f1.size ≤ 400) : Ev (fun k => graftwoodref05_May.f k n.f0 n.f1) (nodeOk n) := by
  unfold graftwoodref05_May.f nodeOk
  refine ev_bind (refMay4_ev n.f0 (by omega)) ?_
  cases isPath (L n.f0) with
  | false => exact ev_neg (by decide) (ev_now rfl)
  | true => exact ev_pos rfl (ev_last (refVerMay_ev n.f1 (by omega)))
theorem eq_nd (x n : Nd) : (x.f0.toList == n.f0.toList && x.f1.toList == n.f1.toList) = decide (x.f0 = n.f0 ∧ x.f1 = n.f1) := by
  rw [toList_L, toList_L, toList_L, toList_L, Bool.eq_iff_iff]
  simp only [Bool.and_eq_true, beq_iff_eq, decide_eq_true_eq]
  exact ⟨fun h => ⟨L_inj h.1, L_inj h.2⟩, fun h => ⟨by rw [h.1], by rw [h.2]⟩⟩
theorem ix_drop (n : Nd) (l : List Nd) (i : Nat) (h : i < l.length) : ixOf n (l.drop i) = if l[i].f0 = n.f0 ∧ l[i].f1 = n.f1 then some 0 else (ixOf n (l.drop (i + 1))).map (· + 1) := by
  unfold ixOf
  rw [List.drop_eq_getElem_cons h, ixN]
theorem has_loop (l : List Nd) (n : Nd) (hl : l.length ≤ 1000000000) (d : Nat) : ∀ i : Nat, i + d = l.length → Ev (fun k => graftwoodref05_Has.l0 k l i n.f0 n.f1) (ixOf n (l.drop i)).isSome := by
  induction d with
  | zero =>
    intro i hi
    refine ev_step (fun k => by rw [graftwoodref05_Has.l0]) ?_
    refine ev_neg (by omega) (ev_now ?_)
    rw [List.drop_eq_nil_of_le (by omega)]; rfl
  | succ d ih =>
    intro i hi
    have hil : i < l.length := by omega
    refine ev_step (fun k => by rw [graftwoodref05_Has.l0]) ?_
    refine ev_pos (by omega) (ev_pos (by omega) ?_)
    rw [rdN_at l i hil, eq_nd, w_succ i (by omega), ix_drop n l i hil]
    refine ev_ite (fun h => ?_) (fun h => ?_)
    · rw [if_pos (of_decide_eq_true h)]; exact ev_now rfl
    · rw [if_neg (fun e => h (decide_eq_true e)), Option.isSome_map]
      exact ih (i + 1) (by omega)
theorem has_ev (l : List Nd) (n : Nd) (hl : l.length ≤ 1000000000) : Ev (fun k => graftwoodref05_Has.f k l n.f0 n.f1) (ixOf n l).isSome := by
  unfold graftwoodref05_Has.f
  have h := has_loop l n hl l.length 0 (by omega)
  rw [List.drop_zero] at h
  exact h
theorem refMay10_loop (m : List Nd) (hS : smallL m) (hl : m.length ≤ 1000000) (d : Nat) : ∀ i : Nat, i + d = m.length → Ev (fun k => graftwoodref10_May.l0 k i m) (tabL (m.drop i) (m.take i)) := by
  induction d with
  | zero =>
    intro i hi
    refine ev_step (fun k => by rw [graftwoodref10_May.l0]) ?_
    refine ev_neg (by omega) (ev_now ?_)
    rw [List.drop_eq_nil_of_le (by omega)]; rfl
  | succ d ih =>
    intro i hi
    have hil : i < m.length := by omega
    refine ev_step (fun k => by rw [graftwoodref10_May.l0]) ?_
    refine ev_pos (by omega) (ev_pos (by omega) ?_)
    rw [rdN_at m i hil, w_succ i (by omega), List.drop_eq_getElem_cons hil, tabL]
    refine ev_bind (refMay5_ev m[i] (hS _ (List.getElem_mem hil))) ?_
    have hn := ih (i + 1) (by omega)
    rw [List.take_succ_eq_append_getElem hil] at hn
    have hh := has_ev (m.take i) m[i] (by rw [List.length_take]; omega)
    cases nodeOk m[i] with
    | false =>
      rw [Bool.and_false, Bool.false_and]
      exact ev_neg (by decide) (ev_now rfl)
    | true =>
      rw [Bool.and_true]
      refine ev_pos rfl (ev_pos (by omega) ?_)
      rw [Int.toNat_natCast]
      refine ev_bind hh ?_
      cases (ixOf m[i] (m.take i)).isSome with
      | true => exact ev_pos rfl (ev_now rfl)
      | false => exact ev_neg (by decide) hn
theorem refMay10_ev (m : List Nd) (hS : smallL m) (hl : m.length ≤ 1000000) : Ev (fun k => graftwoodref10_May.f k m) (namesOk m) := by
  unfold graftwoodref10_May.f
  have h := refMay10_loop m hS hl m.length 0 (by omega)
  rw [List.drop_zero, List.take_zero] at h
  exact h
def placeI (o : Option Nat) : Int := match o with
  | some i => i
  | none => -1
theorem place_loop (l : List Nd) (n : Nd) (hl : l.length ≤ 1000000000) (d : Nat) : ∀ i : Nat, i + d = l.length → Ev (fun k => graftwoodref10_Place.l0 k i l n.f0 n.f1) (placeI ((ixOf n (l.drop i)).map (· + i))) := by
  induction d with
  | zero =>
    intro i hi
    refine ev_step (fun k => by rw [graftwoodref10_Place.l0]) ?_
    refine ev_neg (by omega) (ev_now ?_)
    rw [List.drop_eq_nil_of_le (by omega)]; rfl
  | succ d ih =>
    intro i hi
    have hil : i < l.length := by omega
    refine ev_step (fun k => by rw [graftwoodref10_Place.l0]) ?_
    refine ev_pos (by omega) (ev_pos (by omega) ?_)
    rw [rdN_at l i hil, eq_nd, w_succ i (by omega), ix_drop n l i hil]
    refine ev_ite (fun h => ?_) (fun h => ?_)
    · rw [if_pos (of_decide_eq_true h)]
      exact ev_now (by simp [placeI])
    · rw [if_neg (fun e => h (decide_eq_true e)), Option.map_map]
      have e : ((fun x : Nat => x + i) ∘ fun x => x + 1) = fun x => x + (i + 1) := by funext x; simp only [Function.comp]; omega
      rw [e]
      exact ih (i + 1) (by omega)
theorem place_ev (l : List Nd) (n : Nd) (hl : l.length ≤ 1000000000) : Ev (fun k => graftwoodref10_Place.f k l n.f0 n.f1) (placeI (ixOf n l)) := by
  unfold graftwoodref10_Place.f
  have h := place_loop l n hl l.length 0 (by omega)
  rw [List.drop_zero] at h
  have e : (ixOf n l).map (· + 0) = ixOf n l := by cases ixOf n l <;> rfl
  rw [e] at h
  exact h
theorem refId_ev (l : List Nd) (n : Nd) (hl : l.length ≤ 1000000000) : Ev (fun k => graftwoodref10_Id.f k l n.f0 n.f1) ((placeOf n l : Int), grow1 n l) := by
  unfold graftwoodref10_Id.f placeOf grow1
  refine ev_bind (place_ev l n hl) ?_
  cases ixOf n l with
  | some i => exact ev_pos (by simp [placeI]) (ev_now rfl)
  | none =>
    refine ev_neg (by simp [placeI]) ?_
    refine ev_some (ev_pos (by simp only [List.length_nil]; omega) (ev_some (ev_some (ev_pos ?_ (ev_now rfl)))))
    simp only [List.nil_append, List.length_cons, List.length_nil]
    omega
end Go.Proofs.YtjneghnknfhboaaDoor.Q

namespace Go.Proofs.YtjneghnknfhboaaDoor.Pure
open Go.RowKit Go.Proofs.YtjneghnknfhboaaDoor.P Go.Proofs.YtjneghnknfhboaaDoor.Q Go.Proofs.YtjneghnknfhboaaDoorB Go.Proofs.YtjneghnknfhboaaDoorW.PrintWords Go.Proofs.YtjneghnknfhboaaDoorW.PrintLast Go.Proofs.YtjneghnknfhboaaDoorW.PrintMore
set_option linter.unusedVariables false
def inR (m : List Nd) (i : Int) : Bool := decide (0 ≤ i ∧ i < (m.length : Int))
def rdN (m : List Nd) (i : Int) : Nd := rd_T34 m i
theorem atGo_all (m : List Nd) : ∀ (ids : List Int) (out : List Nd), ids.all (inR m) = true → atGo m ids out = some (out ++ ids.map (rdN m), 0)
  | [], out, _ => by simp [atGo]
  | i :: l, out, h => by
    rw [List.all_cons, Bool.and_eq_true] at h
    rw [atGo, if_pos (of_decide_eq_true h.1), atGo_all m l _ h.2]
    simp [rdN]
theorem atGo_bad (m : List Nd) : ∀ (ids : List Int) (out : List Nd), ids.all (inR m) = false → atGo m ids out = some ([], 2)
  | [], out, h => by simp at h
  | i :: l, out, h => by
    rw [List.all_cons] at h
    cases hi : inR m i with
    | false => rw [atGo, if_neg (of_decide_eq_false hi)]
    | true =>
      rw [hi, Bool.true_and] at h
      rw [atGo, if_pos (of_decide_eq_true hi), atGo_bad m l _ h]
theorem Find_any (l : List Nd) (n : Nd) (hS : smallL l) (hl : l.length ≤ 1000000000) (hn : n.f0.size ≤ 400 ∧ n.f1.size ≤ 400) : Ev (fun k => intern_Find.f k l n.f0 n.f1) (if (namesOk l && nodeOk n) = true then findOf (ixOf n l) else (0, 1)) := by
  have h2 := nodeMay_ev n.f0 n.f1 (by omega) (by omega)
  unfold intern_Find.f nodeOk
  refine ev_bind (tabF_ev l hS hl) ?_
  cases namesOk l with
  | false => exact ev_neg (by decide) (ev_now rfl)
  | true =>
    rw [Bool.true_and]
    refine ev_pos rfl (ev_bind h2 ?_)
    cases isPath (L n.f0) && verOk (L n.f1) with
    | false => exact ev_neg (by decide) (ev_now rfl)
    | true =>
      refine ev_pos rfl (ev_pos ?_ (ev_now rfl))
      unfold okN
      rw [decide_eq_true_eq]
      omega
theorem At_any (l : List Nd) (hS : smallL l) (hl : l.length ≤ 1000000000) (ids : List Int) (hi : ids.length ≤ 1000000000) (r : List Nd × Int) (hr : atGo l ids [] = some r) : Ev (fun k => intern_At.f k l ids) (if namesOk l = true then r else ([], 1)) := by
  unfold intern_At.f
  refine ev_bind (tabF_ev l hS hl) ?_
  cases namesOk l with
  | false => exact ev_neg (by decide) (ev_now rfl)
  | true => exact ev_pos rfl (ev_pos hi (ev_const hr))
theorem Id_any (l : List Nd) (n : Nd) (hS : smallL l) (hl : l.length ≤ 1000000) (hn : n.f0.size ≤ 400 ∧ n.f1.size ≤ 400) : Ev (fun k => intern_Id.f k l n.f0 n.f1) (if (namesOk l && nodeOk n) = true then ((placeOf n l : Int), grow1 n l, 0) else (0, l, 1)) := by
  have h := All_ev l [n] hS (fun x hx => by rw [List.mem_singleton.1 hx]; exact hn) (by simp only [List.length_cons, List.length_nil]; omega)
  have e : [n].all nodeOk = nodeOk n := by simp
  rw [e] at h
  unfold intern_Id.f
  refine ev_bind h ?_
  cases namesOk l && nodeOk n with
  | false => exact ev_neg (by simp) (ev_now rfl)
  | true => exact ev_pos rfl (ev_pos (by simp [idsOf]) (ev_now rfl))
theorem Tells_j3 (y : List Nd) (hy : y.length ≤ 1000) (a : Int) : Ev (fun k => IIT.j3 k a 0 a false y y) true := by
  refine ev_step (fun k => by rw [IIT.j3]) ?_
  exact ev_neg (by decide) (ev_pos rfl (ev_bind (same10_ev y (by omega)) (ev_pos rfl (ev_pos rfl (ev_last awake10_ev)))))
theorem Tells_j2 (m : List Nd) (n : Nd) (hS : smallL m) (hl : m.length ≤ 100) (hn : n.f0.size ≤ 400 ∧ n.f1.size ≤ 400) (f : Int × Int) (i : Int × List Nd × Int)
    (hf : f = if nodeOk n = true then findOf (ixOf n m) else (0, 1)) (hi : i = if nodeOk n = true then ((placeOf n m : Int), grow1 n m, 0) else (0, m, 1)) :
    Ev (fun k => IIT.j2 k f.1 f.2 i.1 i.2.2 false m n.f0 n.f1 i.2.1) true := by
  have hg : (grow1 n m).length ≤ 101 := by unfold grow1; cases ixOf n m <;> simp <;> omega
  refine ev_step (fun k => by rw [IIT.j2]) ?_
  refine ev_neg (by decide) (ev_bind (refMay5_ev n hn) ?_)
  cases hk : nodeOk n with
  | false =>
    rw [hk, if_neg (by decide)] at hf hi
    subst hf; subst hi
    exact ev_neg (by decide) (ev_pos rfl (ev_pos rfl (ev_pos rfl (ev_bind (same10_ev m (by omega)) (ev_pos rfl (ev_pos rfl (ev_last awake10_ev)))))))
  | true =>
    rw [hk, if_pos rfl] at hf hi
    subst hi
    have hp := place_ev m n (by omega)
    refine ev_pos rfl (ev_bind (refId_ev m n (by omega)) (ev_bind hp ?_))
    have h3 := Tells_j3 (grow1 n m) (by omega) (placeOf n m : Int)
    cases hx : ixOf n m with
    | none =>
      rw [hx] at hf hp
      subst hf
      exact ev_pos (by simp [placeI]) (ev_pos rfl (ev_pos rfl (ev_bind hp (ev_neg (by simp [placeI]) h3))))
    | some j =>
      rw [hx] at hf hp
      subst hf
      have e : ((j : Int)) = (placeOf n m : Int) := by unfold placeOf; rw [hx]
      refine ev_neg (by simp [placeI]) (ev_bind hp (ev_pos (by simp [placeI]) (ev_pos e h3)))
theorem Tells_l0 (m : List Nd) (n : Nd) (ids : List Int) (a b c d : Int) (y : List Nd) (x : List Nd × Int) (hi : ids.length ≤ 100) (hx : atGo m ids [] = some x)
    (hend : Ev (fun k => IIT.j2 k a b c d false m n.f0 n.f1 y) true) (t : Nat) : ∀ (i : Nat) (bad : Bool) (want : List Nd), i + t = ids.length → want.length ≤ i → bad = !((ids.take i).all (inR m)) → (bad = false → want = (ids.take i).map (rdN m)) →
    Ev (fun k => IIT.l0 k ids a b c d x.1 x.2 want bad i m n.f0 n.f1 y) true := by
  induction t with
  | zero =>
    intro i bad want h hw hb hq
    rw [List.take_of_length_le (by omega)] at hb hq
    refine ev_step (fun k => by rw [IIT.l0]) ?_
    refine ev_neg (by omega) ?_
    cases hall : ids.all (inR m) with
    | false =>
      rw [hall] at hb
      rw [atGo_bad m ids [] hall] at hx
      obtain rfl := Option.some.inj hx
      exact ev_pos hb (ev_neg (by simp) (ev_pos rfl hend))
    | true =>
      rw [hall] at hb
      have hb' : bad = false := hb
      rw [atGo_all m ids [] hall, List.nil_append, ← hq hb'] at hx
      obtain rfl := Option.some.inj hx
      refine ev_neg (by rw [hb']; decide) (ev_bind (same5_ev want (by omega)) (ev_pos rfl hend))
  | succ t ih =>
    intro i bad want h hw hb hq
    have hil : i < ids.length := by omega
    refine ev_step (fun k => by rw [IIT.l0]) ?_
    refine ev_pos (by omega) (ev_pos (by omega) ?_)
    rw [rdI_at ids i hil, w_succ i (by omega)]
    have ht : ids.take (i + 1) = ids.take i ++ [ids[i]] := List.take_succ_eq_append_getElem hil
    have hall : (ids.take (i + 1)).all (inR m) = ((ids.take i).all (inR m) && inR m ids[i]) := by rw [ht, List.all_append, List.all_cons, List.all_nil, Bool.and_true]
    have hstep : inR m ids[i] = false → Ev (fun k => IIT.l0 k ids a b c d x.1 x.2 want true ((i + 1 : Nat) : Int) m n.f0 n.f1 y) true := fun h0 =>
      ih (i + 1) true want (by omega) (by omega) (by rw [hall, h0, Bool.and_false]; rfl) (fun h => by cases h)
    by_cases h0 : ids[i] < 0
    · exact ev_pos h0 (hstep (decide_eq_false (by omega)))
    · refine ev_neg h0 ?_
      by_cases h1 : ids[i] ≥ (m.length : Int)
      · exact ev_pos h1 (hstep (decide_eq_false (by omega)))
      · have h2 : inR m ids[i] = true := decide_eq_true (by omega)
        refine ev_neg h1 (ev_pos (by omega) (ev_pos (by omega) (ev_pos (by omega) ?_)))
        refine ih (i + 1) bad _ (by omega) (by simp; omega) (by rw [hall, h2, Bool.and_true]; exact hb) (fun hf => ?_)
        rw [ht, List.map_append, ← hq hf]
        rfl
theorem Tells_j0 (m : List Nd) (n : Nd) (ids : List Int) (hS : smallL m) (hl : m.length ≤ 100) (hn : n.f0.size ≤ 400 ∧ n.f1.size ≤ 400) (hi : ids.length ≤ 100) : Ev (fun k => IIT.j0 k ids m n.f0 n.f1) true := by
  have hat : ∃ r, atGo m ids [] = some r := by
    cases h : ids.all (inR m) with
    | false => exact ⟨_, atGo_bad m ids [] h⟩
    | true => exact ⟨_, atGo_all m ids [] h⟩
  obtain ⟨x, hx⟩ := hat
  have hM := refMay10_ev m hS (by omega)
  refine ev_step (fun k => by rw [IIT.j0]) ?_
  refine ev_bind (Find_any m n hS (by omega) hn) (ev_bind (Id_any m n hS (by omega) hn) (ev_bind (At_any m hS (by omega) ids (by omega) x hx) (ev_bind (Check_ev m hS (by omega)) (ev_bind hM ?_))))
  cases hk : namesOk m with
  | false =>
    rw [hk] at hM
    exact ev_neg (by decide) (ev_bind hM (ev_neg (by decide) (ev_pos rfl (ev_pos rfl (ev_pos rfl (ev_bind (same10_ev m (by omega)) (ev_pos rfl (ev_pos rfl (ev_pos rfl (ev_pos rfl (ev_last awake10_ev)))))))))))
  | true =>
    rw [hk] at hM
    refine ev_neg (by decide) (ev_bind hM (ev_pos rfl ?_))
    rw [Bool.true_and, if_pos rfl]
    have h2 := Tells_j2 m n hS hl hn _ _ rfl rfl
    exact Tells_l0 m n ids _ _ _ _ _ x hi hx h2 ids.length 0 false [] (by omega) (by simp) (by simp) (fun _ => by simp)
theorem InternTells : graftwoodlaw10_InternTells.Goal := by
  intro x0 x1 ids _ _ _
  obtain ⟨l0⟩ := x0
  refine Ev.rounds (g := fun k => graftwoodlaw10_InternTells.f k l0 x1.f0 x1.f1 ids) ?_
  unfold graftwoodlaw10_InternTells.f graftwoodlaw05_One.f
  refine ev_bind (few10_ev l0) ?_
  rw [Few_eq, Few_eq]
  refine ev_some ?_
  have h0 : (⟨few x1.f0, few x1.f1⟩ : Nd).f0.size ≤ 400 ∧ (⟨few x1.f0, few x1.f1⟩ : Nd).f1.size ≤ 400 := ⟨few_size _, few_size _⟩
  have hl := fewL_len l0
  refine ev_ite (fun h => ev_pos (by omega) ?_) (fun h => ?_)
  · exact Tells_j0 (fewL l0) ⟨few x1.f0, few x1.f1⟩ (ids.take 12) (few_small l0) (by omega) h0 (by rw [List.length_take]; omega)
  · exact Tells_j0 (fewL l0) ⟨few x1.f0, few x1.f1⟩ ids (few_small l0) (by omega) h0 (by omega)
end Go.Proofs.YtjneghnknfhboaaDoor.Pure
