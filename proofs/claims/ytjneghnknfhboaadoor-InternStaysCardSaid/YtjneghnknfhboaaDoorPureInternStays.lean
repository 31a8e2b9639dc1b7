import Derived.Test.YtjneghnknfhboaaDoorWWords
import Derived.Test.YtjneghnknfhboaaDoorWLast
import Derived.Test.YtjneghnknfhboaaDoorWMore
import Derived.Lib.Strings
import Derived.Test.YtjneghnknfhboaaDoorP2
import Derived.Test.YtjneghnknfhboaaDoorP4
import Derived.Test.YtjneghnknfhboaaDoorP5
import Derived.Test.YtjneghnknfhboaaDoorP3
import Derived.Test.YtjneghnknfhboaaDoorP11
import Derived.Test.YtjneghnknfhboaaDoorP6
import Derived.Test.YtjneghnknfhboaaDoorP12
import Derived.Test.YtjneghnknfhboaaDoorP16
import Derived.Test.YtjneghnknfhboaaDoorP8
import Derived.Test.YtjneghnknfhboaaDoorP23
import Derived.Test.YtjneghnknfhboaaDoorP24
import Derived.Test.YtjneghnknfhboaaDoorP17
import Derived.Test.YtjneghnknfhboaaDoorP25
import Derived.Test.YtjneghnknfhboaaDoorGInternStays
/-
  Plain lemmas: 'eventually' (Ev) over the number of rounds, lists of octets. No program in sight.
-/
namespace Go.Proofs.YtjneghnknfhboaaDoorB
open Go.RowKit Go.Proofs.YtjneghnknfhboaaDoorW.PrintWords Go.Proofs.YtjneghnknfhboaaDoorW.PrintLast Go.Proofs.YtjneghnknfhboaaDoorW.PrintMore

theorem ev_bind {α β : Type} {g : Nat → Option α} {f : Nat → α → Option β} {a : α} {r : β} (h : Ev g a) (k : Ev (fun n => f n a) r) : Ev (fun n => (g n).bind (f n)) r := Ev.bind h k
theorem ev_some {α β : Type} {f : Nat → α → Option β} {a : α} {r : β} (k : Ev (fun n => f n a) r) : Ev (fun n => (some a).bind (f n)) r := k
theorem ev_pos {α : Type} {c : Prop} [Decidable c] {f g : Nat → Option α} {r : α} (h : c) (k : Ev f r) : Ev (fun n => if c then f n else g n) r := by
  simpa only [if_pos h] using k
theorem ev_neg {α : Type} {c : Prop} [Decidable c] {f g : Nat → Option α} {r : α} (h : ¬ c) (k : Ev g r) : Ev (fun n => if c then f n else g n) r := by
  simpa only [if_neg h] using k
theorem ev_ite {α : Type} {c : Prop} [Decidable c] {f g : Nat → Option α} {r : α} (h : c → Ev f r) (k : ¬ c → Ev g r) : Ev (fun n => if c then f n else g n) r := by
  by_cases hc : c
  · exact ev_pos hc (h hc)
  · exact ev_neg hc (k hc)
theorem ev_now {α : Type} {a r : α} (h : a = r) : Ev (fun _ => some a) r := by subst h; exact Ev.now _
theorem ev_const {α : Type} {g : Option α} {r : α} (h : g = some r) : Ev (fun _ => g) r := by subst h; exact Ev.now _
theorem ev_last {α : Type} {g : Nat → Option α} {r : α} (h : Ev g r) : Ev (fun n => (g n).bind fun t => some t) r := ev_bind h (ev_now rfl)
theorem ev_step {α : Type} {g f : Nat → Option α} {r : α} (h : ∀ k, g (k + 1) = f k) (k : Ev f r) : Ev g r := Ev.step h k

/-! ### numbers -/
theorem w_id {i : Int} (h0 : -9223372036854775808 ≤ i) (h1 : i ≤ 9223372036854775807) : wrap64 i = i := by unfold wrap64; omega
theorem w_succ (i : Nat) (h : i ≤ 4611686018427387904) : wrap64 ((i : Int) + 1) = ((i + 1 : Nat) : Int) := by
  have h1 : wrap64 ((i : Int) + 1) = (i : Int) + 1 := w_id (by omega) (by omega)
  rw [h1]; rfl
/-! ### texts -/
/-- A text's octets. -/
def L (s : ByteArray) : List UInt8 := s.data.toList
theorem L_size (s : ByteArray) : (L s).length = s.size := by simp [L]
theorem L_inj {a b : ByteArray} (h : L a = L b) : a = b := by
  cases a; cases b; simp only [L] at h; congr; exact Array.ext' h
theorem toList_L (s : ByteArray) : s.toList = L s := Lib.toList_data s
theorem L_mk (l : List UInt8) : L ⟨l.toArray⟩ = l := rfl
theorem mk_L (s : ByteArray) : (⟨(L s).toArray⟩ : ByteArray) = s := by cases s; rfl
theorem L_extract (s : ByteArray) (a b : Nat) : L (s.extract a b) = ((L s).drop a).take (b - a) := Lib.extract_data s a b
theorem bt_L (s : ByteArray) (i : Nat) (h : i < (L s).length) : bt s i = ((L s)[i].toNat : Int) := by
  have h' : i < s.size := by rw [← L_size]; exact h
  unfold bt
  rw [dif_pos (by simpa using h')]
  rfl
theorem rdOf_at {α : Type} (d : α) (l : List α) (i : Nat) (h : i < l.length) : rdOf d l i = l[i] := by
  simp [rdOf, List.getD_eq_getElem?_getD, h]

/-- Two texts held against one another. -/
def cmpL (x y : List UInt8) : Int := if x < y then -1 else if y < x then 1 else 0
end Go.Proofs.YtjneghnknfhboaaDoorB

/-
  What the printed functions of layer 1 (octet), its reference and its law's helpers come to: plain lists of octets.
-/
namespace Go.Proofs.YtjneghnknfhboaaDoor.Q
open Go.RowKit Go.Proofs.YtjneghnknfhboaaDoor.P Go.Proofs.YtjneghnknfhboaaDoorB Go.Proofs.YtjneghnknfhboaaDoorW.PrintWords Go.Proofs.YtjneghnknfhboaaDoorW.PrintLast Go.Proofs.YtjneghnknfhboaaDoorW.PrintMore
set_option linter.unusedSimpArgs false

/-! ### Few -/
def few (a : ByteArray) : ByteArray := if a.size > 400 then a.extract 0 400 else a
theorem few_size (a : ByteArray) : (few a).size ≤ 400 := by
  unfold few
  split
  · simp; omega
  · omega
theorem Few_eq (a : ByteArray) : graftwoodlaw01_Few.f a = some (few a) := by
  unfold graftwoodlaw01_Few.f few
  by_cases h : a.size > 400
  · rw [if_pos (by omega), if_pos (by omega), if_pos (by omega), if_pos h]
  · rw [if_neg (by omega), if_neg h]

/-! ### Cmp -/

/-! ### Parts -/
def partsB (c : UInt8) (s : ByteArray) : List ByteArray := (partsL c (L s)).map fun x => ⟨x.toArray⟩
theorem Parts_eq (s : ByteArray) (c : Int) (h0 : 0 ≤ c) (h1 : c < 256) (hs : s.size ≤ 1000000000) : octet_Parts.f s c = some (partsB c.toNat.toUInt8 s) := by
  unfold octet_Parts.f
  rw [if_pos h0, if_pos h1, if_pos hs]
  rfl
theorem partsB_length (c : UInt8) (s : ByteArray) : (partsB c s).length = (partsL c (L s)).length := by simp [partsB]
theorem partsL_pos (c : UInt8) (l : List UInt8) : 1 ≤ (partsL c l).length := (partsL_length c l).2
theorem partsL_ne (c : UInt8) (l : List UInt8) : partsL c l ≠ [] := fun h => by have := partsL_pos c l; rw [h] at this; simp at this
/-- Put together again. -/
def joinL (c : UInt8) : List (List UInt8) → List UInt8
  | [] => []
  | [x] => x
  | x :: y :: l => x ++ c :: joinL c (y :: l)
theorem partsL_split (c : UInt8) (l : List UInt8) : ∃ h t, partsL c l = h :: t := by
  cases hp : partsL c l with
  | nil => exact absurd hp (partsL_ne c l)
  | cons h t => exact ⟨h, t, rfl⟩
theorem part_le (c : UInt8) : ∀ (l : List UInt8) (p : List UInt8), p ∈ partsL c l → p.length ≤ l.length
  | [], p, hp => by simp [partsL] at hp; simp [hp]
  | b :: l, p, hp => by
    have ih := part_le c l
    obtain ⟨x, t, hx⟩ := partsL_split c l
    rw [partsL, hx] at hp
    rw [hx] at ih
    by_cases h : b = c
    · rw [if_pos h] at hp
      rcases List.mem_cons.1 hp with rfl | hp
      · simp
      · have := ih p hp; simp; omega
    · rw [if_neg h] at hp
      rcases List.mem_cons.1 hp with rfl | hp
      · have := ih x (by simp); simpa using this
      · have := ih p (by simp at hp ⊢; exact .inr hp); simp; omega
theorem All_eq (s : ByteArray) (l : List Int) (hs : s.size ≤ 1000000000) : octet_All.f s l = some (allOf l (L s)) := by
  unfold octet_All.f
  rw [if_pos hs]
  rfl
end Go.Proofs.YtjneghnknfhboaaDoor.Q

/-
  What the printed functions of layers 2 (number) and 3 (version) and their references come to.
-/
namespace Go.Proofs.YtjneghnknfhboaaDoor.Q
open Go.RowKit Go.Proofs.YtjneghnknfhboaaDoor.P Go.Proofs.YtjneghnknfhboaaDoorB Go.Proofs.YtjneghnknfhboaaDoorW.PrintWords Go.Proofs.YtjneghnknfhboaaDoorW.PrintLast Go.Proofs.YtjneghnknfhboaaDoorW.PrintMore
set_option linter.unusedSimpArgs false
set_option linter.unusedVariables false

/-! ### numbers -/
def zeroOk : List UInt8 → Bool
  | [] => true
  | b :: l => !(b == 48) || l.isEmpty
def numL (l : List UInt8) : Bool := !l.isEmpty && allOf [1] l && zeroOk l
theorem number_May_eq (s : ByteArray) (hs : s.size ≤ 1000000000) : number_May.f s = some (numL (L s)) := by
  have sz := L_size s
  unfold number_May.f
  rw [toList_L, All_eq s [1] hs]
  cases hL : L s with
  | nil => rfl
  | cons b l =>
    rw [hL] at sz
    simp only [List.length_cons] at sz
    have h0 : bt s 0 = (b.toNat : Int) := by
      have := bt_L s 0 (by rw [hL]; simp)
      simpa [hL] using this
    rw [if_neg (by simp), Option.bind_some]
    unfold numL
    cases ha : allOf [1] (b :: l) with
    | false => rw [if_neg (by simp)]; simp
    | true =>
      rw [if_pos rfl, if_pos (by omega), h0]
      have hb48 : ((b.toNat : Int) = 48) ↔ b = 48 := ⟨fun e => UInt8.toNat_inj.1 (by have : (48 : UInt8).toNat = 48 := rfl; omega), fun e => by rw [e]; rfl⟩
      by_cases h : b = 48
      · rw [if_pos (hb48.2 h)]
        congr 1
        rw [Bool.eq_iff_iff, beq_iff_eq]
        unfold zeroOk
        rw [h]
        cases l with
        | nil => simp at sz ⊢; omega
        | cons c l => simp only [List.length_cons] at sz; simp; omega
      · rw [if_neg (fun e => h (hb48.1 e))]
        unfold zeroOk
        simp [h]
def cmpI (a b : Int) : Int := if a < b then -1 else if a > b then 1 else 0
def orL : List Int → Int
  | [] => 0
  | a :: l => if a = 0 then orL l else a
/-- Two numbers held against one another. -/
def numC (a b : List UInt8) : Int := if cmpI a.length b.length = 0 then cmpL a b else cmpI a.length b.length
def numbersL (a b : List UInt8) : Int := if numL a && numL b then numC a b else 0

/-! ### words -/
def wordsL (a b : List UInt8) : Int := if numL a then (if numL b then numC a b else -1) else if numL b then 1 else cmpL a b
def badL (l : List UInt8) : Bool := l.any fun b => ([46, 95, 126] : List UInt8).contains b
theorem indexAny_any (chars : List UInt8) : ∀ l : List UInt8, decide (Lib.indexAny l chars ≥ 0) = l.any fun b => chars.contains b
  | [] => rfl
  | b :: l => by
    have ih := indexAny_any chars l
    have hg := Lib.indexAny_ge chars l
    rw [Lib.indexAny, List.any_cons, ← ih]
    cases chars.contains b with
    | true => rfl
    | false =>
      rw [if_neg (by decide), Bool.false_or]
      by_cases h : Lib.indexAny l chars = -1
      · rw [if_pos (by rw [h]; rfl), h]
      · rw [if_neg (by simpa using h)]
        congr 1
        rw [eq_iff_iff]
        constructor <;> intro _ <;> omega
theorem ContainsAny_eq (s : ByteArray) (hs : s.size ≤ 1000000000) : strings_ContainsAny.f s (⟨#[46, 95, 126]⟩ : ByteArray) = some (badL (L s)) := by
  unfold strings_ContainsAny.f strings_IndexAny.f
  rw [if_pos ⟨hs, by decide, by decide, by decide⟩, Option.bind_some]
  congr 1
  exact indexAny_any _ _
def wordL (l : List UInt8) : Bool := !l.isEmpty && !badL l && allOf [1, 2, 3] l && (numL l || !allOf [1] l)
theorem word_ev (s : ByteArray) (hs : s.size ≤ 1000000000) : Ev (fun k => version_word.f k s) (wordL (L s)) := by
  have htrue : ∀ r, r = false → Ev (fun k => version_word.j0 k s true) r := by
    intro r hr
    refine ev_step (fun k => by rw [version_word.j0]) ?_
    exact ev_pos rfl (ev_now hr.symm)
  unfold version_word.f
  rw [ContainsAny_eq s hs, All_eq s _ hs, toList_L]
  simp only [Option.bind_some]
  unfold wordL
  refine ev_ite (fun h => htrue _ (by rw [h]; rfl)) (fun h => ?_)
  have hne : (L s).isEmpty = false := by
    cases hL : L s with
    | nil => exact absurd hL h
    | cons => rfl
  rw [hne]
  cases badL (L s) with
  | true => exact ev_pos rfl (htrue _ rfl)
  | false =>
    refine ev_neg (by decide) ?_
    cases allOf [1, 2, 3] (L s) with
    | false => exact htrue _ rfl
    | true =>
      refine ev_step (fun k => by rw [version_word.j0]) ?_
      refine ev_neg (by decide) ?_
      rw [number_May_eq s hs, All_eq s _ hs]
      simp only [Option.bind_some]
      cases numL (L s) with
      | true => exact ev_pos rfl (ev_now rfl)
      | false => exact ev_neg (by decide) (ev_now rfl)

/-! ### cut -/
def cutL : List UInt8 → List UInt8 × List UInt8 × Bool
  | [] => ([], [], false)
  | b :: l => if b = 45 then ([], l, true) else (b :: (cutL l).1, (cutL l).2.1, (cutL l).2.2)
theorem cutL_index : ∀ l : List UInt8, (Lib.indexByte l 45 = -1 ∧ cutL l = (l, [], false)) ∨ ∃ i : Nat, Lib.indexByte l 45 = i ∧ i < l.length ∧ cutL l = (l.take i, l.drop (i + 1), true)
  | [] => .inl ⟨rfl, rfl⟩
  | b :: l => by
    rw [Lib.indexByte, cutL]
    by_cases h : b = 45
    · right
      rw [if_pos (by simp [h]), if_pos h]
      exact ⟨0, rfl, by simp, rfl⟩
    · rw [if_neg (by simp [h]), if_neg h]
      rcases cutL_index l with ⟨h1, h2⟩ | ⟨i, h1, h2, h3⟩
      · left
        rw [h1, h2]
        exact ⟨rfl, rfl⟩
      · right
        refine ⟨i + 1, ?_, by simp; omega, by rw [h3]; rfl⟩
        rw [h1, if_neg (by simp only [beq_iff_eq]; omega)]
        rfl
def mkB (l : List UInt8) : ByteArray := ⟨l.toArray⟩
theorem L_mkB (l : List UInt8) : L (mkB l) = l := rfl
theorem mkB_size (l : List UInt8) : (mkB l).size = l.length := by rw [← L_size, L_mkB]
theorem mkB_L (s : ByteArray) : mkB (L s) = s := mk_L s
theorem Cut_eq (s : ByteArray) (hs : s.size ≤ 1000000000) : strings_Cut.f s (⟨#[45]⟩ : ByteArray) = some (mkB (cutL (L s)).1, mkB (cutL (L s)).2.1, (cutL (L s)).2.2) := by
  have sz := L_size s
  unfold strings_Cut.f stringslite_Cut.f stringslite_Index.f
  rw [if_pos (show (⟨#[45]⟩ : ByteArray).size = 1 from rfl), Option.bind_some]
  have hsep : (⟨#[45]⟩ : ByteArray).size = 1 := rfl
  have hix : Lib.indexByte s.data.toList (List.headD (⟨#[45]⟩ : ByteArray).data.toList 0) = Lib.indexByte (L s) 45 := rfl
  rw [hix, hsep]
  rcases cutL_index (L s) with ⟨h1, h2⟩ | ⟨i, h1, h2, h3⟩
  · rw [h1, h2, if_neg (by decide), Option.bind_some]
    simp only [mkB_L]
    rfl
  · have hw : wrap64 ((i : Int) + (1 : Nat)) = ((i + 1 : Nat) : Int) := w_succ i (by omega)
    rw [h1, h3, hw, if_pos (by omega), if_pos (by omega), if_pos (by omega), if_pos (by omega), if_pos (by omega), Option.bind_some]
    simp only [Int.toNat_natCast]
    congr 1
    refine Prod.ext ?_ (Prod.ext ?_ rfl)
    · refine L_inj ?_
      rw [L_extract, List.drop_zero, Nat.sub_zero]; rfl
    · refine L_inj ?_
      rw [L_extract, List.take_of_length_le (by rw [List.length_drop]; omega)]; rfl
theorem cutL_sizes (l : List UInt8) : (cutL l).1.length ≤ l.length ∧ (cutL l).2.1.length ≤ l.length := by
  rcases cutL_index l with ⟨-, h⟩ | ⟨i, -, h2, h⟩
  · rw [h]; simp
  · rw [h]; simp only [List.length_take, List.length_drop]; omega

/-! ### versions -/
structure Ver where
  a : List UInt8
  b : List UInt8
  c : List UInt8
  p : List (List UInt8)
def coreL (l : List UInt8) : Option (List UInt8 × List UInt8 × List UInt8) := match partsL 46 l with
  | [a, b, c] => if numL a && numL b && numL c then some (a, b, c) else none
  | _ => none
def splitC (core pre : List UInt8) (has : Bool) : Option Ver := match coreL core with
  | some (a, b, c) => if has then (if (partsL 46 pre).all wordL then some ⟨a, b, c, partsL 46 pre⟩ else none) else some ⟨a, b, c, []⟩
  | none => none
def splitL : List UInt8 → Option Ver
  | [] => none
  | v :: t => if v = 118 then splitC (cutL t).1 (cutL t).2.1 (cutL t).2.2 else none
theorem splitL_cons (v : UInt8) (t : List UInt8) : splitL (v :: t) = if v = 118 then splitC (cutL t).1 (cutL t).2.1 (cutL t).2.2 else none := rfl
def verR : Option Ver → ByteArray × ByteArray × ByteArray × List ByteArray × Int
  | some v => (mkB v.a, mkB v.b, mkB v.c, v.p.map mkB, 0)
  | none => (⟨#[]⟩, ⟨#[]⟩, ⟨#[]⟩, [], 1)
theorem Split_loop (x : List ByteArray) (a b c : ByteArray) (p : List ByteArray) (hx : x.length ≤ 1000000001) (hm : ∀ s, s ∈ x → s.size ≤ 1000000000) (d : Nat) : ∀ i : Nat, i + d = x.length →
    Ev (fun k => version_Split.l0 k x x.length i a b c p) (if (x.drop i).all fun s => wordL (L s) then (a, b, c, p, 0) else (⟨#[]⟩, ⟨#[]⟩, ⟨#[]⟩, [], 1)) := by
  induction d with
  | zero =>
    intro i hi
    refine ev_step (fun k => by rw [version_Split.l0]) ?_
    refine ev_neg (by omega) (ev_now ?_)
    rw [List.drop_eq_nil_of_le (by omega)]; rfl
  | succ d ih =>
    intro i hi
    have hil : i < x.length := by omega
    refine ev_step (fun k => by rw [version_Split.l0]) ?_
    refine ev_pos (by omega) (ev_pos (by omega) (ev_pos (by omega) ?_))
    rw [rdOf_at _ x i hil, w_succ i (by omega), List.drop_eq_getElem_cons hil, List.all_cons]
    refine ev_bind (word_ev _ (hm _ (List.getElem_mem _))) ?_
    refine ev_ite (fun h => ?_) (fun h => ?_)
    · rw [h, Bool.true_and]
      exact ih (i + 1) (by omega)
    · have h' : wordL (L x[i]) = false := by simpa using h
      rw [h', Bool.false_and]
      exact ev_now rfl
theorem partsB_mk (c : UInt8) (l : List UInt8) : partsB c (mkB l) = (partsL c l).map mkB := rfl
theorem HasPrefix_v (s : ByteArray) : strings_HasPrefix.f s (⟨#[118]⟩ : ByteArray) = some (match L s with | [] => false | b :: _ => b == 118) := by
  have sz := L_size s
  unfold strings_HasPrefix.f stringslite_HasPrefix.f
  have h1 : (⟨#[118]⟩ : ByteArray).size = 1 := rfl
  rw [h1]
  cases hL : L s with
  | nil =>
    rw [hL] at sz
    simp only [List.length_nil] at sz
    rw [if_neg (by omega)]; rfl
  | cons b l =>
    rw [hL] at sz
    simp only [List.length_cons] at sz
    rw [if_pos (by omega), if_pos (by omega), if_pos (by omega), Option.bind_some]
    congr 1
    have : (s.extract 0 ((1 : Nat) : Int).toNat).toList = [b] := by
      rw [toList_L, L_extract, hL]; rfl
    rw [this]
    have h2 : (⟨#[118]⟩ : ByteArray).toList = [118] := by rw [toList_L]; rfl
    rw [h2]
    simp
theorem Split_ev (s : ByteArray) (hs : s.size ≤ 1000000) : Ev (fun k => version_Split.f k s) (verR (splitL (L s))) := by
  have sz := L_size s
  unfold version_Split.f
  rw [HasPrefix_v]
  refine ev_some ?_
  cases hL : L s with
  | nil => exact ev_neg (by decide) (ev_now rfl)
  | cons v t =>
    rw [hL] at sz
    simp only [List.length_cons] at sz
    by_cases hv : v = 118
    case neg => exact ev_neg (by simp [hv]) (ev_now (by rw [splitL_cons, if_neg hv]; rfl))
    refine ev_pos (by simp [hv]) (ev_pos (by omega) ?_)
    have ht : s.extract 1 s.size = mkB t := by
      refine L_inj ?_
      rw [L_extract, hL, L_mkB]
      show List.take _ t = t
      exact List.take_of_length_le (by omega)
    rw [ht, Cut_eq _ (by rw [mkB_size]; omega), L_mkB]
    simp only [Option.bind_some]
    rw [splitL_cons, if_pos hv]
    have hcs := cutL_sizes t
    generalize cutL t = ct at *
    obtain ⟨core, pre, has⟩ := ct
    simp only at hcs ⊢
    rw [Parts_eq _ 46 (by decide) (by decide) (by rw [mkB_size]; omega)]
    simp only [Option.bind_some]
    have h46 : (46 : Int).toNat.toUInt8 = 46 := rfl
    rw [h46, partsB_mk]
    have hcl := (partsL_length 46 core).1
    have hple := part_le 46 core
    have hbad : ∀ (x : ByteArray) (y : Bool) (z : List ByteArray), Ev (fun k => version_Split.j0 k x y z true) (verR none) := by
      intro x y z
      refine ev_step (fun k => by rw [version_Split.j0]) ?_
      exact ev_pos rfl (ev_now rfl)
    unfold splitC coreL
    rcases hpl : partsL 46 core with _ | ⟨a, _ | ⟨b, _ | ⟨c, _ | ⟨d, r⟩⟩⟩⟩
    · exact ev_neg (by decide) (hbad _ _ _)
    · exact ev_neg (by simp) (hbad _ _ _)
    · exact ev_neg (by simp) (hbad _ _ _)
    · rw [hpl] at hple
      have la := hple a (by simp)
      have lb := hple b (by simp)
      have lc := hple c (by simp)
      refine ev_pos rfl (ev_pos (by simp) ?_)
      have r0 : rdOf ByteArray.empty (List.map mkB [a, b, c]) 0 = mkB a := rfl
      have r1 : rdOf ByteArray.empty (List.map mkB [a, b, c]) 1 = mkB b := rfl
      have r2 : rdOf ByteArray.empty (List.map mkB [a, b, c]) 2 = mkB c := rfl
      rw [r0, r1, r2, number_May_eq _ (by rw [mkB_size]; omega), number_May_eq _ (by rw [mkB_size]; omega), number_May_eq _ (by rw [mkB_size]; omega), L_mkB, L_mkB, L_mkB]
      simp only [Option.bind_some]
      cases numL a with
      | false => exact ev_neg (by decide) (hbad _ _ _)
      | true =>
        refine ev_pos rfl (ev_pos (by simp) ?_)
        cases numL b with
        | false => exact ev_neg (by decide) (hbad _ _ _)
        | true =>
          refine ev_pos rfl (ev_pos (by simp) ?_)
          cases numL c with
          | false => exact hbad _ _ _
          | true =>
            refine ev_step (fun k => by rw [version_Split.j0]) ?_
            refine ev_neg (by decide) (ev_pos (by simp) (ev_pos (by simp) (ev_pos (by simp) ?_)))
            rw [r0, r1, r2]
            cases has with
            | false => exact ev_neg (by decide) (ev_now rfl)
            | true =>
              refine ev_pos rfl ?_
              rw [Parts_eq _ 46 (by decide) (by decide) (by rw [mkB_size]; omega), h46, partsB_mk]
              refine ev_some ?_
              have hpl2 := (partsL_length 46 pre).1
              have hp2 := part_le 46 pre
              have h := Split_loop ((partsL 46 pre).map mkB) (mkB a) (mkB b) (mkB c) ((partsL 46 pre).map mkB) (by rw [List.length_map]; omega) (fun x hx => by
                obtain ⟨y, hy, rfl⟩ := List.mem_map.1 hx
                have := hp2 y hy
                rw [mkB_size]; omega) ((partsL 46 pre).map mkB).length 0 (by omega)
              have he : (((partsL 46 pre).map mkB).drop 0).all (fun s => wordL (L s)) = (partsL 46 pre).all wordL := by
                rw [List.drop_zero, List.all_map]; rfl
              rw [he] at h
              simp only [Bool.and_self, if_true]
              revert h
              cases (partsL 46 pre).all wordL <;> exact fun h => h
    · exact ev_neg (by simp; omega) (hbad _ _ _)
def verOk (l : List UInt8) : Bool := (splitL l).isSome
theorem verMay_ev (s : ByteArray) (hs : s.size ≤ 1000000) : Ev (fun k => version_May.f k s) (verOk (L s)) := by
  unfold version_May.f
  refine ev_bind (Split_ev s hs) (ev_now ?_)
  unfold verOk
  cases splitL (L s) <;> rfl

/-! ### orders -/
structure Tot {α : Type} (c : α → α → Int) : Prop where
  flip : ∀ a b, c b a = - c a b
  zero : ∀ a b, c a b = 0 ↔ a = b
  trans : ∀ a b d, c a b ≤ 0 → c b d ≤ 0 → c a d ≤ 0
def lexC {α β : Type} (c1 : α → α → Int) (c2 : β → β → Int) (x y : α × β) : Int := if c1 x.1 y.1 = 0 then c2 x.2 y.2 else c1 x.1 y.1
def listC {α : Type} (c : α → α → Int) : List α → List α → Int
  | [], [] => 0
  | [], _ :: _ => -1
  | _ :: _, [] => 1
  | a :: x, b :: y => if c a b = 0 then listC c x y else c a b
/-- The words behind: none comes last. -/
def preV (x y : List (List UInt8)) : Int := if x.isEmpty || y.isEmpty then cmpI y.length x.length else listC wordsL x y
def verP (v : Ver) : List UInt8 × List UInt8 × List UInt8 × List (List UInt8) := (v.a, v.b, v.c, v.p)
def verC (x y : Ver) : Int := lexC numC (lexC numC (lexC numC preV)) (verP x) (verP y)
def cmpR (x y : Option Ver) : Int × Int := match x, y with
  | some v, some w => (verC v w, 0)
  | _, _ => (0, 1)
/-! ### put together -/
def joinV (v : Ver) : List UInt8 := 118 :: ((v.a ++ 46 :: (v.b ++ 46 :: v.c)) ++ (if v.p.isEmpty then [] else 45 :: joinL 46 v.p))
def verOkV (v : Ver) : Bool := numL v.a && numL v.b && numL v.c && v.p.all wordL
end Go.Proofs.YtjneghnknfhboaaDoor.Q

/-
  What the printed functions of layer 4 (path) and its reference come to.
-/
namespace Go.Proofs.YtjneghnknfhboaaDoor.Q
open Go.RowKit Go.Proofs.YtjneghnknfhboaaDoor.P Go.Proofs.YtjneghnknfhboaaDoorB Go.Proofs.YtjneghnknfhboaaDoorW.PrintWords Go.Proofs.YtjneghnknfhboaaDoorW.PrintLast Go.Proofs.YtjneghnknfhboaaDoorW.PrintMore
set_option linter.unusedSimpArgs false

/-- Is a text a path? -/
def isPath (l : List UInt8) : Bool := (partsL 47 l).all elemL
def withinL (p q : List UInt8) : Bool := isPath p && isPath q && (p ++ [47]).isPrefixOf (q ++ [47])

theorem elem_eq (s : ByteArray) (hs : s.size ≤ 1000000000) : path_element.f s = some (elemL (L s)) := by
  unfold path_element.f
  rw [if_pos hs]
  rfl
theorem Elements_loop (x l : List ByteArray) (hl : l.length ≤ 1000000001) (hm : ∀ s, s ∈ l → s.size ≤ 1000000000) (d : Nat) : ∀ i : Nat, i + d = l.length →
    Ev (fun k => path_Elements.l0 k x l l.length i) (if (l.drop i).all fun s => elemL (L s) then (x, 0) else ([], 1)) := by
  induction d with
  | zero =>
    intro i hi
    refine ev_step (fun k => by rw [path_Elements.l0]) ?_
    refine ev_neg (by omega) (ev_now ?_)
    rw [List.drop_eq_nil_of_le (by omega)]; rfl
  | succ d ih =>
    intro i hi
    have hil : i < l.length := by omega
    refine ev_step (fun k => by rw [path_Elements.l0]) ?_
    refine ev_pos (by omega) (ev_pos (by omega) (ev_pos (by omega) ?_))
    rw [rdOf_at _ l i hil, elem_eq _ (hm _ (List.getElem_mem _)), w_succ i (by omega), List.drop_eq_getElem_cons hil, List.all_cons]
    refine ev_some ?_
    refine ev_ite (fun h => ?_) (fun h => ?_)
    · rw [h, Bool.true_and]
      exact ih (i + 1) (by omega)
    · have h' : elemL (L l[i]) = false := by simpa using h
      rw [h', Bool.false_and]
      exact ev_now rfl
theorem Elements_ev (s : ByteArray) (hs : s.size ≤ 1000000000) : Ev (fun k => path_Elements.f k s) (if isPath (L s) then (partsB 47 s, 0) else ([], 1)) := by
  unfold path_Elements.f
  have hl := (partsL_length 47 (L s)).1
  have hz := L_size s
  rw [Parts_eq s 47 (by decide) (by decide) hs]
  refine ev_some ?_
  have h := Elements_loop (partsB 47 s) (partsB 47 s) (by rw [partsB_length]; omega) (fun p hp => by
    simp only [partsB, List.mem_map] at hp
    obtain ⟨q, hq, rfl⟩ := hp
    have := part_le 47 (L s) q hq
    rw [← L_size, L_mk]; omega) (partsB 47 s).length 0 (by omega)
  have he : ((partsB 47 s).drop 0).all (fun s => elemL (L s)) = isPath (L s) := by
    unfold isPath partsB
    rw [List.drop_zero, List.all_map]
    rfl
  rw [he] at h
  exact h
theorem May_ev (s : ByteArray) (hs : s.size ≤ 1000000000) : Ev (fun k => path_May.f k s) (isPath (L s)) := by
  unfold path_May.f
  refine ev_bind (Elements_ev s hs) (ev_now ?_)
  cases isPath (L s) <;> rfl


end Go.Proofs.YtjneghnknfhboaaDoor.Q

/-
  What the printed functions of layers 5 (node) and 10 (intern) come to.
-/
namespace Go.Proofs.YtjneghnknfhboaaDoor.Q
open Go.RowKit Go.Proofs.YtjneghnknfhboaaDoor.P Go.Proofs.YtjneghnknfhboaaDoorB Go.Proofs.YtjneghnknfhboaaDoorW.PrintWords Go.Proofs.YtjneghnknfhboaaDoorW.PrintLast Go.Proofs.YtjneghnknfhboaaDoorW.PrintMore
set_option linter.unusedSimpArgs false
set_option linter.unusedVariables false
abbrev Nd := S34
theorem nd_ext {x y : Nd} (h0 : x.f0 = y.f0) (h1 : x.f1 = y.f1) : x = y := by
  cases x; cases y; cases h0; cases h1; rfl
theorem rdN_at (l : List Nd) (i : Nat) (h : i < l.length) : rd_T34 l (i : Int) = l[i] := by
  simp [rd_T34, List.getD_eq_getElem?_getD, h]
theorem rdI_at (l : List Int) (i : Nat) (h : i < l.length) : rd l (i : Int) = l[i] := by
  simp [rd, List.getD_eq_getElem?_getD, h]

/-! ### nodes -/
def nodeOk (n : Nd) : Bool := isPath (L n.f0) && verOk (L n.f1)
theorem nodeMay_ev (p v : ByteArray) (hp : p.size ≤ 1000000) (hv : v.size ≤ 1000000) : Ev (fun k => node_May.f k p v) (isPath (L p) && verOk (L v)) := by
  unfold node_May.f
  refine ev_bind (May_ev p (by omega)) ?_
  cases isPath (L p) with
  | false => exact ev_neg (by decide) (ev_now rfl)
  | true => exact ev_pos rfl (ev_last (verMay_ev v hv))
def fewN (n : Nd) : Nd := ⟨few n.f0, few n.f1⟩
def fewL (l : List Nd) : List Nd := (l.take 24).map fewN
def smallL (l : List Nd) : Prop := ∀ n, n ∈ l → n.f0.size ≤ 400 ∧ n.f1.size ≤ 400
theorem few_small (l : List Nd) : smallL (fewL l) := by
  intro n hn
  obtain ⟨x, -, rfl⟩ := List.mem_map.1 hn
  exact ⟨few_size _, few_size _⟩
theorem fewL_len (l : List Nd) : (fewL l).length ≤ 24 := by unfold fewL; rw [List.length_map, List.length_take]; omega
theorem few5_loop (l : List Nd) (d : Nat) : ∀ (i : Nat) (p : List Nd), i + d = min l.length 24 → p.length = i → Ev (fun k => graftwoodlaw05_Few.l0 k l p i) (p ++ ((l.take 24).drop i).map fewN) := by
  induction d with
  | zero =>
    intro i p hi hp
    have hd : (l.take 24).drop i = [] := List.drop_eq_nil_of_le (by rw [List.length_take]; omega)
    rw [hd, List.map_nil, List.append_nil]
    refine ev_step (fun k => by rw [graftwoodlaw05_Few.l0]) ?_
    exact ev_ite (fun h => ev_neg (by omega) (ev_now rfl)) (fun _ => ev_now rfl)
  | succ d ih =>
    intro i p hi hp
    have hil : i < l.length := by omega
    refine ev_step (fun k => by rw [graftwoodlaw05_Few.l0]) ?_
    refine ev_pos (by omega) (ev_pos (by omega) (ev_pos (by omega) ?_))
    unfold graftwoodlaw05_One.f
    rw [rdN_at l i hil, Few_eq, Few_eq, w_succ i (by omega)]
    refine ev_some (ev_pos (by omega) ?_)
    have h := ih (i + 1) (p ++ [fewN l[i]]) (by omega) (by simp [hp])
    have hd : (l.take 24).drop i = l[i] :: (l.take 24).drop (i + 1) := by
      rw [List.drop_eq_getElem_cons (by rw [List.length_take]; omega), List.getElem_take]
    rw [hd, List.map_cons]
    rw [List.append_assoc] at h
    exact h
theorem few5_ev (l : List Nd) : Ev (fun k => graftwoodlaw05_Few.f k l) (fewL l) := by
  unfold graftwoodlaw05_Few.f
  exact few5_loop l (min l.length 24) 0 [] (by omega) rfl
theorem few10_ev (l : List Nd) : Ev (fun k => graftwoodlaw10_Few.f k l) (fewL l) := by
  unfold graftwoodlaw10_Few.f
  exact ev_last (few5_ev l)
theorem same5_loop (l : List Nd) (hl : l.length ≤ 1000000000) (d : Nat) : ∀ i : Nat, i + d = l.length → Ev (fun k => graftwoodref05_Same.l0 k l l i) true := by
  induction d with
  | zero =>
    intro i hi
    refine ev_step (fun k => by rw [graftwoodref05_Same.l0]) ?_
    exact ev_neg (by omega) (ev_now rfl)
  | succ d ih =>
    intro i hi
    have hil : i < l.length := by omega
    refine ev_step (fun k => by rw [graftwoodref05_Same.l0]) ?_
    refine ev_pos (by omega) (ev_pos (by omega) (ev_pos (by omega) (ev_neg (by simp) ?_)))
    rw [w_succ i (by omega)]
    exact ih (i + 1) (by omega)
theorem same5_ev (l : List Nd) (hl : l.length ≤ 1000000000) : Ev (fun k => graftwoodref05_Same.f k l l) true := by
  unfold graftwoodref05_Same.f
  exact ev_pos rfl (same5_loop l hl l.length 0 (by omega))
theorem same10_ev (l : List Nd) (hl : l.length ≤ 1000000000) : Ev (fun k => graftwoodlaw10_same.f k l l) true := by
  unfold graftwoodlaw10_same.f
  exact ev_last (same5_ev l hl)

/-! ### places -/
theorem ix_some {p v : ByteArray} : ∀ {l : List Nd} {i : Nat}, ixN p v l = some i → ∃ h : i < l.length, l[i] = ⟨p, v⟩
  | [], i, h => by cases h
  | x :: l, i, h => by
    rw [ixN] at h
    by_cases hx : x.f0 = p ∧ x.f1 = v
    · rw [if_pos hx] at h
      obtain rfl := Option.some.inj h
      exact ⟨by simp, nd_ext hx.1 hx.2⟩
    · rw [if_neg hx] at h
      cases hh : ixN p v l with
      | none => rw [hh] at h; cases h
      | some j =>
        rw [hh] at h
        obtain rfl := Option.some.inj h
        obtain ⟨h1, h2⟩ := ix_some hh
        exact ⟨by simp; omega, by simpa using h2⟩
theorem ix_app {p v : ByteArray} (r : List Nd) : ∀ {l : List Nd} {i : Nat}, ixN p v l = some i → ixN p v (l ++ r) = some i
  | [], i, h => by cases h
  | x :: l, i, h => by
    rw [ixN] at h
    rw [List.cons_append, ixN]
    by_cases hx : x.f0 = p ∧ x.f1 = v
    · rw [if_pos hx] at h ⊢; exact h
    · rw [if_neg hx] at h ⊢
      cases hh : ixN p v l with
      | none => rw [hh] at h; cases h
      | some j =>
        rw [hh] at h
        rw [ix_app r hh]; exact h
def ixOf (n : Nd) (l : List Nd) : Option Nat := ixN n.f0 n.f1 l
theorem ix_new (n : Nd) (l : List Nd) (h : ixOf n l = none) : ixOf n (l ++ [n]) = some l.length := by
  obtain ⟨p, v⟩ := n
  exact ixN_snoc_same p v l h
def grow1 (n : Nd) (l : List Nd) : List Nd := match ixOf n l with
  | some _ => l
  | none => l ++ [n]
def placeOf (n : Nd) (l : List Nd) : Nat := match ixOf n l with
  | some i => i
  | none => l.length
theorem ix_grow1 (n : Nd) (l : List Nd) : ixOf n (grow1 n l) = some (placeOf n l) := by
  unfold grow1 placeOf
  cases h : ixOf n l with
  | some i => exact h
  | none => exact ix_new n l h
def grow : List Nd → List Nd → List Nd
  | [], m => m
  | n :: l, m => grow l (grow1 n m)
def idsOf : List Nd → List Nd → List Int
  | [], _ => []
  | n :: l, m => (placeOf n m : Int) :: idsOf l (grow1 n m)
theorem grow1_app (n : Nd) (m : List Nd) : ∃ r, grow1 n m = m ++ r := by
  unfold grow1
  cases ixOf n m with
  | some i => exact ⟨[], by simp⟩
  | none => exact ⟨[n], rfl⟩
theorem grow_app : ∀ (l m : List Nd), ∃ r, grow l m = m ++ r
  | [], m => ⟨[], by simp [grow]⟩
  | n :: l, m => by
    obtain ⟨r, hr⟩ := grow1_app n m
    obtain ⟨s, hs⟩ := grow_app l (grow1 n m)
    exact ⟨r ++ s, by rw [grow, hs, hr, List.append_assoc]⟩
theorem ids_len : ∀ (l m : List Nd), (idsOf l m).length = l.length
  | [], m => rfl
  | n :: l, m => by rw [idsOf, List.length_cons, ids_len l, List.length_cons]
theorem ix_grow (n : Nd) (l m : List Nd) {i : Nat} (h : ixOf n m = some i) : ixOf n (grow l m) = some i := by
  obtain ⟨r, hr⟩ := grow_app l m
  rw [hr]
  exact ix_app r h
theorem ids_ix : ∀ (l m : List Nd) (i : Nat) (h : i < l.length) (h' : i < (idsOf l m).length), ∃ j : Nat, (idsOf l m)[i] = (j : Int) ∧ ixOf l[i] (grow l m) = some j
  | [], m, i, h, _ => absurd h (by simp)
  | n :: l, m, 0, _, _ => ⟨placeOf n m, rfl, ix_grow n l _ (ix_grow1 n m)⟩
  | n :: l, m, i + 1, h, h' => ids_ix l (grow1 n m) i (by simpa using h) (by simpa [idsOf] using h')
theorem grow_same : ∀ (l m : List Nd), (∀ n, n ∈ l → (ixOf n m).isSome = true) → grow l m = m
  | [], m, _ => rfl
  | n :: l, m, h => by
    have hn := h n (by simp)
    have e : grow1 n m = m := by
      unfold grow1
      cases hx : ixOf n m with
      | some i => rfl
      | none => rw [hx] at hn; cases hn
    rw [grow, e]
    exact grow_same l m (fun x hx => h x (List.mem_cons_of_mem _ hx))
theorem grow_mem : ∀ (l m : List Nd) (x : Nd), x ∈ grow l m → x ∈ m ∨ x ∈ l
  | [], m, x, h => .inl h
  | n :: l, m, x, h => by
    rcases grow_mem l (grow1 n m) x h with h | h
    · unfold grow1 at h
      cases hx : ixOf n m with
      | some i => rw [hx] at h; exact .inl h
      | none =>
        rw [hx] at h
        rcases List.mem_append.1 h with h | h
        · exact .inl h
        · rw [List.mem_singleton.1 h]; exact .inr (by simp)
    · exact .inr (List.mem_cons_of_mem _ h)
theorem grow_len : ∀ (l m : List Nd), (grow l m).length ≤ m.length + l.length
  | [], m => by simp [grow]
  | n :: l, m => by
    have h := grow_len l (grow1 n m)
    have h1 : (grow1 n m).length ≤ m.length + 1 := by
      unfold grow1
      cases ixOf n m <;> simp
    rw [grow, List.length_cons]
    omega
theorem grow_small {l m : List Nd} (hl : smallL l) (hm : smallL m) : smallL (grow l m) := fun x hx => by
  rcases grow_mem l m x hx with h | h
  · exact hm x h
  · exact hl x h

/-! ### which names may be -/
def tabL : List Nd → List Nd → Bool
  | [], _ => true
  | n :: l, seen => !(ixOf n seen).isSome && nodeOk n && tabL l (seen ++ [n])
theorem small_tail {n : Nd} {l : List Nd} (h : smallL (n :: l)) : smallL l := fun x hx => h x (List.mem_cons_of_mem _ hx)
theorem tabGo_ev : ∀ (l seen : List Nd), smallL l → Ev (fun k => tabGo k l seen) (tabL l seen)
  | [], seen, _ => by simp only [tabGo]; exact ev_now rfl
  | n :: l, seen, hS => by
    obtain ⟨h0, h1⟩ := hS n (by simp)
    simp only [tabGo]
    have hok : okN n.f0 n.f1 = true := by unfold okN; rw [decide_eq_true_eq]; omega
    rw [tabL]
    unfold ixOf nodeOk
    refine ev_pos hok (ev_ite (fun h => ?_) (fun h => ?_))
    · rw [h]; exact ev_now rfl
    · have h' : (ixN n.f0 n.f1 seen).isSome = false := by simpa using h
      rw [h', Bool.not_false, Bool.true_and]
      refine ev_bind (nodeMay_ev n.f0 n.f1 (by omega) (by omega)) ?_
      cases isPath (L n.f0) && verOk (L n.f1) with
      | false => exact ev_neg (by decide) (ev_now rfl)
      | true => exact ev_pos rfl (tabGo_ev l (seen ++ [n]) (small_tail hS))
def namesOk (l : List Nd) : Bool := tabL l []
theorem tabF_ev (l : List Nd) (hS : smallL l) (hl : l.length ≤ 1000000000) : Ev (fun k => tabF k l) (namesOk l) := by
  unfold tabF
  exact ev_pos hl (tabGo_ev l [] hS)
theorem tabL_app : ∀ (a b seen : List Nd), tabL (a ++ b) seen = (tabL a seen && tabL b (seen ++ a))
  | [], b, seen => by simp [tabL]
  | n :: a, b, seen => by
    rw [List.cons_append, tabL, tabL, tabL_app a b (seen ++ [n]), List.append_assoc, List.singleton_append]
    simp only [Bool.and_assoc]
theorem tab_ok : ∀ (l seen : List Nd), tabL l seen = true → ∀ n, n ∈ l → nodeOk n = true
  | [], _, _, n, h => absurd h (by simp)
  | x :: l, seen, h, n, hn => by
    rw [tabL] at h
    simp only [Bool.and_eq_true] at h
    rcases List.mem_cons.1 hn with rfl | hn
    · exact h.1.2
    · exact tab_ok l _ h.2 n hn
theorem tab_ix : ∀ (l seen : List Nd), tabL l seen = true → ∀ (i : Nat) (h : i < l.length), ixOf l[i] (seen ++ l) = some (seen.length + i)
  | [], _, _, i, h => absurd h (by simp)
  | x :: l, seen, ht, i, h => by
    rw [tabL] at ht
    simp only [Bool.and_eq_true, Bool.not_eq_true'] at ht
    have hx : ixOf x seen = none := by
      cases hh : ixOf x seen with
      | none => rfl
      | some j => rw [hh] at ht; exact absurd ht.1.1 (by simp)
    have e : seen ++ x :: l = (seen ++ [x]) ++ l := by simp
    rw [e]
    cases i with
    | zero => exact ix_app l (ix_new x seen hx)
    | succ i =>
      have := tab_ix l (seen ++ [x]) ht.2 i (by simpa using h)
      rw [List.length_append] at this
      simp only [List.length_cons, List.length_nil] at this
      rw [show seen.length + (i + 1) = seen.length + (0 + 1) + i by omega]
      exact this
theorem tab_grow : ∀ (l m : List Nd), namesOk m = true → (∀ n, n ∈ l → nodeOk n = true) → namesOk (grow l m) = true
  | [], m, h, _ => h
  | n :: l, m, h, hl => by
    rw [grow]
    refine tab_grow l (grow1 n m) ?_ (fun x hx => hl x (List.mem_cons_of_mem _ hx))
    unfold grow1
    cases hx : ixOf n m with
    | some i => exact h
    | none =>
      show namesOk (m ++ [n]) = true
      unfold namesOk at h ⊢
      rw [tabL_app, h, tabL, List.nil_append, hx, hl n (by simp)]
      rfl
/-! ### Check, Find, At, All -/
theorem Check_ev (l : List Nd) (hS : smallL l) (hl : l.length ≤ 1000000000) : Ev (fun k => intern_Check.f k l) (if namesOk l = true then 0 else 1) := by
  unfold intern_Check.f
  exact ev_bind (tabF_ev l hS hl) (ev_now rfl)
theorem Find_ev (l : List Nd) (hS : smallL l) (hl : l.length ≤ 1000000000) (hok : namesOk l = true) (p v : ByteArray) (hp : p.size ≤ 400) (hv : v.size ≤ 400) (hn : (isPath (L p) && verOk (L v)) = true) : Ev (fun k => intern_Find.f k l p v) (findOf (ixN p v l)) := by
  have h := tabF_ev l hS hl
  rw [hok] at h
  have h2 := nodeMay_ev p v (by omega) (by omega)
  rw [hn] at h2
  unfold intern_Find.f
  refine ev_bind h (ev_pos rfl (ev_bind h2 (ev_pos rfl (ev_pos ?_ (ev_now rfl)))))
  unfold okN
  rw [decide_eq_true_eq]
  omega
theorem At_ev (l : List Nd) (hS : smallL l) (hl : l.length ≤ 1000000000) (hok : namesOk l = true) (ids : List Int) (hi : ids.length ≤ 1000000000) (r : List Nd × Int) (hr : atGo l ids [] = some r) : Ev (fun k => intern_At.f k l ids) r := by
  have h := tabF_ev l hS hl
  rw [hok] at h
  unfold intern_At.f
  exact ev_bind h (ev_pos rfl (ev_pos hi (ev_const hr)))
theorem atGo_one (l : List Nd) (i : Nat) (h : i < l.length) : atGo l [(i : Int)] [] = some ([l[i]], 0) := by
  rw [atGo, if_pos ⟨by omega, by omega⟩, rdN_at l i h]
  rfl
theorem allGo_ev (m : List Nd) : ∀ (l names : List Nd) (out : List Int), smallL l → Ev (fun k => allGo k m l names out) (if (l.all nodeOk) = true then (out ++ idsOf l names, grow l names, 0) else ([], m, 1))
  | [], names, out, _ => by simp only [allGo, idsOf, grow, List.append_nil, List.all_nil, if_true]; exact ev_now rfl
  | n :: l, names, out, hS => by
    obtain ⟨h0, h1⟩ := hS n (by simp)
    have hok : okN n.f0 n.f1 = true := by unfold okN; rw [decide_eq_true_eq]; omega
    simp only [allGo]
    rw [List.all_cons]
    unfold nodeOk
    refine ev_bind (nodeMay_ev n.f0 n.f1 (by omega) (by omega)) ?_
    cases isPath (L n.f0) && verOk (L n.f1) with
    | false => exact ev_neg (by decide) (ev_now rfl)
    | true =>
      rw [Bool.true_and]
      refine ev_pos rfl (ev_pos hok ?_)
      rw [idsOf, grow]
      unfold placeOf grow1 ixOf
      cases ixN n.f0 n.f1 names with
      | some i =>
        have h := allGo_ev m l names (out ++ [(i : Int)]) (small_tail hS)
        rw [List.append_assoc] at h
        exact h
      | none =>
        have h := allGo_ev m l (names ++ [n]) (out ++ [(names.length : Int)]) (small_tail hS)
        rw [List.append_assoc] at h
        exact h
theorem All_ev (m l : List Nd) (hm : smallL m) (hl : smallL l) (hz : m.length + l.length ≤ 1000000000) : Ev (fun k => intern_All.f k m l) (if (namesOk m && l.all nodeOk) = true then (idsOf l m, grow l m, 0) else ([], m, 1)) := by
  unfold intern_All.f
  refine ev_bind (tabF_ev m hm (by omega)) ?_
  cases namesOk m with
  | false => exact ev_neg (by decide) (ev_now rfl)
  | true =>
    refine ev_pos rfl (ev_pos hz ?_)
    have h := allGo_ev m l m [] hl
    rw [List.nil_append] at h
    rw [Bool.true_and]
    exact h
theorem awake10_ev : Ev (fun k => graftwoodlaw10_awake.f k) true := by
  have hn : nodeOk ⟨⟨#[97]⟩, ⟨#[118, 49, 46, 48, 46, 48]⟩⟩ = true := by decide +kernel
  have s1 : smallL [(⟨⟨#[97]⟩, ⟨#[118, 49, 46, 48, 46, 48]⟩⟩ : Nd)] := by
    intro x hx
    rw [List.mem_singleton.1 hx]
    exact ⟨by decide, by decide⟩
  have s0 : smallL [] := fun x hx => absurd hx (by simp)
  have hA : grow [(⟨⟨#[97]⟩, ⟨#[118, 49, 46, 48, 46, 48]⟩⟩ : Nd)] [] = [⟨⟨#[97]⟩, ⟨#[118, 49, 46, 48, 46, 48]⟩⟩] := rfl
  have hB : idsOf [(⟨⟨#[97]⟩, ⟨#[118, 49, 46, 48, 46, 48]⟩⟩ : Nd)] [] = [0] := rfl
  have hT : namesOk [(⟨⟨#[97]⟩, ⟨#[118, 49, 46, 48, 46, 48]⟩⟩ : Nd)] = true := by
    unfold namesOk
    rw [tabL, hn]; rfl
  have hI : ixOf (⟨⟨#[97]⟩, ⟨#[118, 49, 46, 48, 46, 48]⟩⟩ : Nd) [⟨⟨#[97]⟩, ⟨#[118, 49, 46, 48, 46, 48]⟩⟩] = some 0 := by
    unfold ixOf
    rw [ixN, if_pos ⟨rfl, rfl⟩]
  have hA2 : grow [(⟨⟨#[97]⟩, ⟨#[118, 49, 46, 48, 46, 48]⟩⟩ : Nd)] [⟨⟨#[97]⟩, ⟨#[118, 49, 46, 48, 46, 48]⟩⟩] = [⟨⟨#[97]⟩, ⟨#[118, 49, 46, 48, 46, 48]⟩⟩] := grow_same _ _ (fun x hx => by rw [List.mem_singleton.1 hx, hI]; rfl)
  have hB2 : idsOf [(⟨⟨#[97]⟩, ⟨#[118, 49, 46, 48, 46, 48]⟩⟩ : Nd)] [⟨⟨#[97]⟩, ⟨#[118, 49, 46, 48, 46, 48]⟩⟩] = [0] := by
    rw [idsOf, idsOf]
    unfold placeOf
    rw [hI]; rfl
  have e1 := All_ev [] _ s0 s1 (by decide)
  have e2 := All_ev _ _ s1 s1 (by decide)
  rw [hA, hB] at e1
  rw [hA2, hB2, hT] at e2
  rw [show (namesOk [] && [(⟨⟨#[97]⟩, ⟨#[118, 49, 46, 48, 46, 48]⟩⟩ : Nd)].all nodeOk) = true by rw [List.all_cons, hn]; rfl, if_pos rfl] at e1
  rw [show (true && [(⟨⟨#[97]⟩, ⟨#[118, 49, 46, 48, 46, 48]⟩⟩ : Nd)].all nodeOk) = true by rw [List.all_cons, hn]; rfl, if_pos rfl] at e2
  unfold graftwoodlaw10_awake.f
  have i1 : Ev (fun k => intern_Id.f k [] (⟨#[97]⟩ : ByteArray) (⟨#[118, 49, 46, 48, 46, 48]⟩ : ByteArray)) (0, [⟨⟨#[97]⟩, ⟨#[118, 49, 46, 48, 46, 48]⟩⟩], 0) := by
    unfold intern_Id.f
    exact ev_bind e1 (ev_pos rfl (ev_pos (by decide) (ev_now rfl)))
  have i2 : Ev (fun k => intern_Id.f k [⟨⟨#[97]⟩, ⟨#[118, 49, 46, 48, 46, 48]⟩⟩] (⟨#[97]⟩ : ByteArray) (⟨#[118, 49, 46, 48, 46, 48]⟩ : ByteArray)) (0, [⟨⟨#[97]⟩, ⟨#[118, 49, 46, 48, 46, 48]⟩⟩], 0) := by
    unfold intern_Id.f
    exact ev_bind e2 (ev_pos rfl (ev_pos (by decide) (ev_now rfl)))
  refine ev_bind i1 (ev_bind i2 ?_)
  refine ev_bind (At_ev _ s1 (by decide) hT [1] (by decide) ([], 2) (by rw [atGo, if_neg (by decide)])) ?_
  refine ev_bind (At_ev _ s1 (by decide) hT [0] (by decide) _ (atGo_one [(⟨⟨#[97]⟩, ⟨#[118, 49, 46, 48, 46, 48]⟩⟩ : Nd)] 0 (by decide))) ?_
  exact ev_pos ⟨rfl, rfl, rfl, rfl, rfl, rfl, rfl, rfl⟩ (ev_now rfl)
end Go.Proofs.YtjneghnknfhboaaDoor.Q

namespace Go.Proofs.YtjneghnknfhboaaDoor.Pure
open Go.RowKit Go.Proofs.YtjneghnknfhboaaDoor.P Go.Proofs.YtjneghnknfhboaaDoor.Q Go.Proofs.YtjneghnknfhboaaDoorB Go.Proofs.YtjneghnknfhboaaDoorW.PrintWords Go.Proofs.YtjneghnknfhboaaDoorW.PrintLast Go.Proofs.YtjneghnknfhboaaDoorW.PrintMore
set_option linter.unusedVariables false
theorem Stays_found (y : List Nd) (hS : smallL y) (hy : y.length ≤ 100) (hok : namesOk y = true) (d : Nat) : ∀ i : Nat, i + d = y.length → Ev (fun k => graftwoodlaw10_InternStays.l1 k i y) true := by
  induction d with
  | zero =>
    intro i hi
    refine ev_step (fun k => by rw [graftwoodlaw10_InternStays.l1]) ?_
    exact ev_neg (by omega) (ev_last awake10_ev)
  | succ d ih =>
    intro i hi
    have hil : i < y.length := by omega
    obtain ⟨h0, h1⟩ := hS _ (List.getElem_mem hil)
    have hn := tab_ok y [] hok _ (List.getElem_mem hil)
    have hx := tab_ix y [] hok i hil
    rw [List.nil_append, List.length_nil, Nat.zero_add] at hx
    refine ev_step (fun k => by rw [graftwoodlaw10_InternStays.l1]) ?_
    refine ev_pos (by omega) (ev_pos (by omega) ?_)
    rw [rdN_at y i hil]
    have hf := Find_ev y hS (by omega) hok y[i].f0 y[i].f1 h0 h1 hn
    unfold ixOf at hx
    rw [hx] at hf
    refine ev_bind hf (ev_pos rfl (ev_pos rfl ?_))
    rw [w_succ i (by omega)]
    exact ih (i + 1) (by omega)
theorem Stays_told (y q : List Nd) (a : List Int) (hS : smallL y) (hy : y.length ≤ 100) (hq : q.length ≤ 24) (hok : namesOk y = true) (ha : a.length = q.length) (hix : ∀ (i : Nat) (h : i < q.length) (h' : i < a.length), ∃ j : Nat, a[i] = (j : Int) ∧ ixOf q[i] y = some j) (d : Nat) : ∀ i : Nat, i + d = q.length → Ev (fun k => graftwoodlaw10_InternStays.l0 k q a a i y) true := by
  induction d with
  | zero =>
    intro i hi
    refine ev_step (fun k => by rw [graftwoodlaw10_InternStays.l0]) ?_
    exact ev_neg (by omega) (Stays_found y hS hy hok y.length 0 (by omega))
  | succ d ih =>
    intro i hi
    have hil : i < q.length := by omega
    obtain ⟨j, hj, hx⟩ := hix i hil (by omega)
    obtain ⟨hjl, hje⟩ := ix_some hx
    refine ev_step (fun k => by rw [graftwoodlaw10_InternStays.l0]) ?_
    refine ev_pos (by omega) (ev_pos (by omega) (ev_pos (by omega) ?_))
    rw [rdI_at a i (by omega), hj, rdN_at q i hil]
    refine ev_bind (At_ev y hS (by omega) hok [(j : Int)] (by simp) _ (atGo_one y j hjl)) ?_
    refine ev_pos (by omega) (ev_pos rfl (ev_pos rfl (ev_pos rfl (ev_pos (by simp) (ev_neg ?_ ?_)))))
    · have e : rd_T34 [y[j]] 0 = y[j] := rfl
      rw [e, hje]
      simp
    · rw [w_succ i (by omega)]
      exact ih (i + 1) (by omega)
theorem InternStays : graftwoodlaw10_InternStays.Goal := by
  intro x0 l more _ _ _
  obtain ⟨l0⟩ := x0
  refine Ev.rounds (g := fun k => graftwoodlaw10_InternStays.f k l0 l more) ?_
  unfold graftwoodlaw10_InternStays.f
  refine ev_bind (few10_ev l0) (ev_bind (few5_ev l) (ev_bind (few5_ev more) ?_))
  have hS0 := few_small l0
  have hS1 := few_small l
  have hS2 := few_small more
  have hl0 := fewL_len l0
  have hl1 := fewL_len l
  have hl2 := fewL_len more
  generalize fewL l0 = m at *
  generalize fewL l = q at *
  generalize fewL more = t at *
  refine ev_bind (All_ev m q hS0 hS1 (by omega)) ?_
  cases hok : (namesOk m && q.all nodeOk) with
  | false => exact ev_neg (by simp) (ev_last awake10_ev)
  | true =>
    simp only [Bool.and_eq_true] at hok
    obtain ⟨hm, hq⟩ := hok
    have hq' := fun n hn => List.all_eq_true.1 hq n hn
    have hxS := grow_small hS1 hS0
    have hxl := grow_len q m
    have hxk := tab_grow q m hm hq'
    refine ev_pos rfl ?_
    simp only [if_true]
    -- whatever is told behind
    have hj : ∀ y : List Nd, (∃ r, y = grow q m ++ r) → smallL y → y.length ≤ 80 → namesOk y = true → Ev (fun k => graftwoodlaw10_InternStays.j0 k q (idsOf q m) m y) true := by
      intro y hr hyS hyl hyk
      obtain ⟨r, hr⟩ := hr
      have hix : ∀ (i : Nat) (h : i < q.length) (h' : i < (idsOf q m).length), ∃ j : Nat, (idsOf q m)[i] = (j : Int) ∧ ixOf q[i] y = some j := by
        intro i h h'
        obtain ⟨j, h1, h2⟩ := ids_ix q m i h h'
        exact ⟨j, h1, by rw [hr]; exact ix_app r h2⟩
      have hla := ids_len q m
      have hlb := ids_len q y
      have hg : grow q y = y := grow_same q y (fun n hn => by
        obtain ⟨i, h, rfl⟩ := List.getElem_of_mem hn
        obtain ⟨j, -, h2⟩ := hix i h (by omega)
        rw [h2]; rfl)
      have hb : idsOf q y = idsOf q m := by
        refine List.ext_getElem (by omega) (fun i h h' => ?_)
        obtain ⟨j, h1, h2⟩ := hix i (by omega) h'
        obtain ⟨j', h3, h4⟩ := ids_ix q y i (by omega) h
        rw [hg, h2] at h4
        rw [h1, h3, Option.some.inj h4]
      have hml : m.length ≤ y.length := by
        obtain ⟨s, hs⟩ := grow_app q m
        rw [hr, hs]; simp only [List.length_append]; omega
      have hall := All_ev y q hyS hS1 (by omega)
      rw [hyk, hq, Bool.and_self, if_pos rfl, hg, hb] at hall
      refine ev_step (fun k => by rw [graftwoodlaw10_InternStays.j0]) ?_
      refine ev_bind hall (ev_pos rfl (ev_bind (same10_ev y (by omega)) (ev_pos rfl (ev_pos rfl (ev_pos (by rw [hla]) ?_)))))
      have hc := Check_ev y hyS (by omega)
      rw [hyk] at hc
      refine ev_bind hc (ev_pos rfl ?_)
      refine ev_step (fun k => by rw [graftwoodlaw10_InternStays.j1]) ?_
      refine ev_neg ?_ (Stays_told y q (idsOf q m) hyS (by omega) (by omega) hyk hla hix q.length 0 (by omega))
      rw [decide_eq_true_eq]
      omega
    refine ev_bind (All_ev (grow q m) t hxS hS2 (by omega)) ?_
    rw [hxk, Bool.true_and]
    cases ht : t.all nodeOk with
    | false => exact ev_neg (by simp) (hj _ ⟨[], by simp⟩ hxS (by omega) hxk)
    | true =>
      have htl := grow_len t (grow q m)
      exact ev_pos rfl (hj _ (grow_app t (grow q m)) (grow_small hS2 hxS) (by simp only [if_true]; omega) (tab_grow t _ hxk (fun n hn => List.all_eq_true.1 ht n hn)))
end Go.Proofs.YtjneghnknfhboaaDoor.Pure
