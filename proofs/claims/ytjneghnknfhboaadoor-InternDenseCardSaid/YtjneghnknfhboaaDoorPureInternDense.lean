import Derived.Test.YtjneghnknfhboaaDoorWWords
import Derived.Test.YtjneghnknfhboaaDoorWMore
import Derived.Lib.Strings
import Derived.Test.YtjneghnknfhboaaDoorP2
import Derived.Test.YtjneghnknfhboaaDoorP4
import Derived.Test.YtjneghnknfhboaaDoorP5
import Derived.Test.YtjneghnknfhboaaDoorP3
import Derived.Test.YtjneghnknfhboaaDoorP11
import Derived.Test.YtjneghnknfhboaaDoorP6
import Derived.Test.YtjneghnknfhboaaDoorP28
import Derived.Test.YtjneghnknfhboaaDoorP18
import Derived.Test.YtjneghnknfhboaaDoorP12
import Derived.Test.YtjneghnknfhboaaDoorP16
import Derived.Test.YtjneghnknfhboaaDoorP19
import Derived.Test.YtjneghnknfhboaaDoorP20
import Derived.Test.YtjneghnknfhboaaDoorP29
import Derived.Test.YtjneghnknfhboaaDoorP8
import Derived.Test.YtjneghnknfhboaaDoorP23
import Derived.Test.YtjneghnknfhboaaDoorP24
import Derived.Test.YtjneghnknfhboaaDoorP17
import Derived.Test.YtjneghnknfhboaaDoorP25
import Derived.Test.YtjneghnknfhboaaDoorP30
import Derived.Test.YtjneghnknfhboaaDoorP31
import Derived.Test.YtjneghnknfhboaaDoorGInternDense
/-
  Plain lemmas: 'eventually' (Ev) over the number of rounds, lists of octets. No program in sight.
-/
namespace Go.Proofs.YtjneghnknfhboaaDoorB
open Go.RowKit Go.Proofs.YtjneghnknfhboaaDoorW.PrintWords Go.Proofs.YtjneghnknfhboaaDoorW.PrintLast Go.Proofs.YtjneghnknfhboaaDoorW.PrintMore

theorem ev_bind {α β : Type} {g : Nat → Option α} {f : Nat → α → Option β} {a : α} {r : β} (h : Ev g a) (k : Ev (fun n => f n a) r) : Ev (fun n => (g n).bind (f n)) r := Ev.bind h k
theorem ev_some {α β : Type} {f : Nat → α → Option β} {a : α} {r : β} (k : Ev (fun n => f n a) r) : Ev (fun n => (some a).bind (f n)) r := k
theorem ev_pos {α : Type} {c : Prop} [Decidable c] {f g : Nat → Option α} {r : α} (h : c) (k : Ev f r) : Ev (fun n => if c then f n else g n) r := by
  simpa only [if_pos h] using k
theorem ev_neg {α : Type} {c : Prop} [Decidable c] {f g : Nat → Option α} {r : α} (h : ¬ c) (k : Ev g r) : Ev (fun n => if c then f n else g n) r := by
  simpa only [if_neg h] using k
theorem ev_ite {α : Type} {c : Prop} [Decidable c] {f g : Nat → Option α} {r : α} (h : c → Ev f r) (k : ¬ c → Ev g r) : Ev (fun n => if c then f n else g n) r := by
  by_cases hc : c
  · exact ev_pos hc (h hc)
  · exact ev_neg hc (k hc)
theorem ev_now {α : Type} {a r : α} (h : a = r) : Ev (fun _ => some a) r := by subst h; exact Ev.now _
theorem ev_const {α : Type} {g : Option α} {r : α} (h : g = some r) : Ev (fun _ => g) r := by subst h; exact Ev.now _
theorem ev_last {α : Type} {g : Nat → Option α} {r : α} (h : Ev g r) : Ev (fun n => (g n).bind fun t => some t) r := ev_bind h (ev_now rfl)
theorem ev_step {α : Type} {g f : Nat → Option α} {r : α} (h : ∀ k, g (k + 1) = f k) (k : Ev f r) : Ev g r := Ev.step h k

/-! ### numbers -/
theorem w_id {i : Int} (h0 : -9223372036854775808 ≤ i) (h1 : i ≤ 9223372036854775807) : wrap64 i = i := by unfold wrap64; omega
theorem w_succ (i : Nat) (h : i ≤ 4611686018427387904) : wrap64 ((i : Int) + 1) = ((i + 1 : Nat) : Int) := by
  have h1 : wrap64 ((i : Int) + 1) = (i : Int) + 1 := w_id (by omega) (by omega)
  rw [h1]; rfl
theorem drop_nil {α : Type} (l : List α) (i : Nat) (h : l.length ≤ i) : l.drop i = [] := List.drop_eq_nil_of_le h
/-! ### texts -/
/-- A text's octets. -/
def L (s : ByteArray) : List UInt8 := s.data.toList
theorem L_size (s : ByteArray) : (L s).length = s.size := by simp [L]
theorem L_inj {a b : ByteArray} (h : L a = L b) : a = b := by
  cases a; cases b; simp only [L] at h; congr; exact Array.ext' h
theorem toList_L (s : ByteArray) : s.toList = L s := Lib.toList_data s
theorem L_mk (l : List UInt8) : L ⟨l.toArray⟩ = l := rfl
theorem mk_L (s : ByteArray) : (⟨(L s).toArray⟩ : ByteArray) = s := by cases s; rfl
theorem L_extract (s : ByteArray) (a b : Nat) : L (s.extract a b) = ((L s).drop a).take (b - a) := Lib.extract_data s a b
theorem bt_L (s : ByteArray) (i : Nat) (h : i < (L s).length) : bt s i = ((L s)[i].toNat : Int) := by
  have h' : i < s.size := by rw [← L_size]; exact h
  unfold bt
  rw [dif_pos (by simpa using h')]
  rfl
theorem rdOf_at {α : Type} (d : α) (l : List α) (i : Nat) (h : i < l.length) : rdOf d l i = l[i] := by
  simp [rdOf, List.getD_eq_getElem?_getD, h]

/-- Two texts held against one another. -/
def cmpL (x y : List UInt8) : Int := if x < y then -1 else if y < x then 1 else 0
theorem cmpL_self (x : List UInt8) : cmpL x x = 0 := by simp [cmpL, List.lt_irrefl]
theorem cmpL_zero {x y : List UInt8} : cmpL x y = 0 ↔ x = y := by
  unfold cmpL
  constructor
  · intro h
    by_cases h1 : x < y
    · rw [if_pos h1] at h; omega
    · rw [if_neg h1] at h
      by_cases h2 : y < x
      · rw [if_pos h2] at h; omega
      · exact List.le_antisymm (List.not_lt.1 h2) (List.not_lt.1 h1)
  · intro h; subst h; simp [List.lt_irrefl]
theorem cmpL_neg {x y : List UInt8} : cmpL x y < 0 ↔ x < y := by
  unfold cmpL
  by_cases h1 : x < y
  · simp [h1]
  · by_cases h2 : y < x <;> simp [h1, h2]
theorem cmpL_flip (x y : List UInt8) : cmpL y x = - cmpL x y := by
  unfold cmpL
  by_cases h1 : x < y
  · have h2 : ¬ y < x := List.lt_asymm h1
    simp [h1, h2]
  · by_cases h2 : y < x <;> simp [h1, h2]
theorem cmpL_le {x y : List UInt8} : cmpL x y ≤ 0 ↔ x ≤ y := by
  rw [← List.not_lt, ← cmpL_neg, cmpL_flip x y]
  omega
end Go.Proofs.YtjneghnknfhboaaDoorB

/-
  What the printed functions of layer 1 (octet), its reference and its law's helpers come to: plain lists of octets.
-/
namespace Go.Proofs.YtjneghnknfhboaaDoor.Q
open Go.RowKit Go.Proofs.YtjneghnknfhboaaDoor.P Go.Proofs.YtjneghnknfhboaaDoorB Go.Proofs.YtjneghnknfhboaaDoorW.PrintWords Go.Proofs.YtjneghnknfhboaaDoorW.PrintLast Go.Proofs.YtjneghnknfhboaaDoorW.PrintMore
set_option linter.unusedSimpArgs false

/-! ### Few -/
def few (a : ByteArray) : ByteArray := if a.size > 400 then a.extract 0 400 else a
theorem few_size (a : ByteArray) : (few a).size ≤ 400 := by
  unfold few
  split
  · simp; omega
  · omega
theorem Few_eq (a : ByteArray) : graftwoodlaw01_Few.f a = some (few a) := by
  unfold graftwoodlaw01_Few.f few
  by_cases h : a.size > 400
  · rw [if_pos (by omega), if_pos (by omega), if_pos (by omega), if_pos h]
  · rw [if_neg (by omega), if_neg h]

/-! ### Cmp -/

/-! ### Parts -/
def partsB (c : UInt8) (s : ByteArray) : List ByteArray := (partsL c (L s)).map fun x => ⟨x.toArray⟩
theorem Parts_eq (s : ByteArray) (c : Int) (h0 : 0 ≤ c) (h1 : c < 256) (hs : s.size ≤ 1000000000) : octet_Parts.f s c = some (partsB c.toNat.toUInt8 s) := by
  unfold octet_Parts.f
  rw [if_pos h0, if_pos h1, if_pos hs]
  rfl
theorem partsB_length (c : UInt8) (s : ByteArray) : (partsB c s).length = (partsL c (L s)).length := by simp [partsB]
theorem partsL_pos (c : UInt8) (l : List UInt8) : 1 ≤ (partsL c l).length := (partsL_length c l).2
theorem partsL_ne (c : UInt8) (l : List UInt8) : partsL c l ≠ [] := fun h => by have := partsL_pos c l; rw [h] at this; simp at this
/-- Put together again. -/
def joinL (c : UInt8) : List (List UInt8) → List UInt8
  | [] => []
  | [x] => x
  | x :: y :: l => x ++ c :: joinL c (y :: l)
theorem joinL_cons (c : UInt8) (x : List UInt8) (l : List (List UInt8)) (h : l ≠ []) : joinL c (x :: l) = x ++ c :: joinL c l := by
  cases l with
  | nil => exact absurd rfl h
  | cons y l => rfl
theorem partsL_split (c : UInt8) (l : List UInt8) : ∃ h t, partsL c l = h :: t := by
  cases hp : partsL c l with
  | nil => exact absurd hp (partsL_ne c l)
  | cons h t => exact ⟨h, t, rfl⟩
theorem joinL_parts (c : UInt8) : ∀ l : List UInt8, joinL c (partsL c l) = l
  | [] => rfl
  | b :: l => by
    have ih := joinL_parts c l
    rw [partsL]
    by_cases h : b = c
    · rw [if_pos h, joinL_cons c [] _ (partsL_ne c l), ih, h]; rfl
    · rw [if_neg h]
      obtain ⟨x, t, hx⟩ := partsL_split c l
      rw [hx] at ih ⊢
      rw [← ih]
      cases t with
      | nil => rfl
      | cons y t => rfl
theorem partsL_append (c : UInt8) (b : List UInt8) : ∀ a : List UInt8, partsL c (a ++ c :: b) = partsL c a ++ partsL c b
  | [] => by simp [partsL]
  | x :: a => by
    have ih := partsL_append c b a
    rw [List.cons_append, partsL, ih, partsL]
    obtain ⟨p, t, hp⟩ := partsL_split c a
    by_cases h : x = c
    · rw [if_pos h, if_pos h]; rfl
    · rw [if_neg h, if_neg h, hp]; rfl
theorem partsL_whole (c : UInt8) (l : List UInt8) (h : c ∉ l) : partsL c l = [l] := by
  induction l with
  | nil => rfl
  | cons b l ih =>
    simp only [List.mem_cons, not_or] at h
    rw [partsL, if_neg (fun e => h.1 e.symm), ih h.2]
    rfl
theorem part_le (c : UInt8) : ∀ (l : List UInt8) (p : List UInt8), p ∈ partsL c l → p.length ≤ l.length
  | [], p, hp => by simp [partsL] at hp; simp [hp]
  | b :: l, p, hp => by
    have ih := part_le c l
    obtain ⟨x, t, hx⟩ := partsL_split c l
    rw [partsL, hx] at hp
    rw [hx] at ih
    by_cases h : b = c
    · rw [if_pos h] at hp
      rcases List.mem_cons.1 hp with rfl | hp
      · simp
      · have := ih p hp; simp; omega
    · rw [if_neg h] at hp
      rcases List.mem_cons.1 hp with rfl | hp
      · have := ih x (by simp); simpa using this
      · have := ih p (by simp at hp ⊢; exact .inr hp); simp; omega
/-! ### the reference's Cmp -/
theorem cmpL_cons_cons (x y : UInt8) (a b : List UInt8) : cmpL (x :: a) (y :: b) = if x < y then -1 else if y < x then 1 else cmpL a b := by
  unfold cmpL
  simp only [List.cons_lt_cons_iff]
  by_cases h1 : x < y
  · simp [h1]
  · by_cases h2 : y < x
    · have h3 : ¬ x = y := fun e => by subst e; exact UInt8.lt_irrefl _ h2
      simp [h1, h2, h3]
    · have h3 : x = y := UInt8.le_antisymm (UInt8.not_lt.1 h2) (UInt8.not_lt.1 h1)
      subst h3
      simp [h1]
theorem refCmp_loop (a b : ByteArray) (hb : (L a).length ≤ 1000000000) (d : Nat) : ∀ i : Nat, i + d = min (L a).length (L b).length → Ev (fun k => graftwoodref01_Cmp.l0 k a b i) (cmpL ((L a).drop i) ((L b).drop i)) := by
  have sa := L_size a
  have sb := L_size b
  induction d with
  | zero =>
    intro i hi
    refine ev_step (fun k => by rw [graftwoodref01_Cmp.l0]) ?_
    have hlast : ∀ c : Bool, c = false → Ev (fun k => graftwoodref01_Cmp.j1 k a b i c) (cmpL ((L a).drop i) ((L b).drop i)) := by
      intro c hc
      subst hc
      refine ev_step (fun k => by rw [graftwoodref01_Cmp.j1]) ?_
      refine ev_neg (by simp) ?_
      refine ev_ite (fun h => ?_) (fun h => ?_)
      · refine ev_now ?_
        rw [drop_nil (L a) i (by omega), List.drop_eq_getElem_cons (l := L b) (by omega)]
        rfl
      · refine ev_ite (fun h' => ?_) (fun h' => ?_)
        · refine ev_now ?_
          rw [drop_nil (L b) i (by omega), List.drop_eq_getElem_cons (l := L a) (by omega)]
          rfl
        · refine ev_now ?_
          rw [drop_nil (L b) i (by omega), drop_nil (L a) i (by omega)]
          rfl
    refine ev_ite (fun h => hlast _ (decide_eq_false (by omega))) (fun h => hlast _ rfl)
  | succ d ih =>
    intro i hi
    have ha : i < (L a).length := by omega
    have hb' : i < (L b).length := by omega
    refine ev_step (fun k => by rw [graftwoodref01_Cmp.l0]) ?_
    refine ev_pos (by omega) ?_
    rw [show decide ((i : Int) < (b.size : Int)) = true from decide_eq_true (by omega)]
    refine ev_step (fun k => by rw [graftwoodref01_Cmp.j1]) ?_
    refine ev_pos rfl (ev_pos (by omega) (ev_pos (by omega) (ev_pos (by omega) ?_)))
    rw [List.drop_eq_getElem_cons ha, List.drop_eq_getElem_cons hb', cmpL_cons_cons]
    have hlt : ∀ x y : UInt8, x < y ↔ (x.toNat : Int) < (y.toNat : Int) := fun x y => by rw [UInt8.lt_iff_toNat_lt]; omega
    refine ev_ite (fun h => ?_) (fun h => ?_)
    · rw [bt_L a i ha, bt_L b i hb', ← hlt] at h
      rw [if_pos h]; exact ev_now rfl
    · rw [bt_L a i ha, bt_L b i hb', ← hlt] at h
      rw [if_neg h]
      refine ev_ite (fun h' => ?_) (fun h' => ?_)
      · have h'' : (bt b i) < (bt a i) := h'
        rw [bt_L a i ha, bt_L b i hb', ← hlt] at h''
        rw [if_pos h'']; exact ev_now rfl
      · have h'' : ¬ (bt b i) < (bt a i) := h'
        rw [bt_L a i ha, bt_L b i hb', ← hlt] at h''
        rw [if_neg h'']
        have e := w_succ i (by omega)
        rw [e]
        exact ih (i + 1) (by omega)
theorem refCmp_ev (a b : ByteArray) (ha : a.size ≤ 1000000000) : Ev (fun k => graftwoodref01_Cmp.f k a b) (cmpL (L a) (L b)) :=
  refCmp_loop a b (by rw [L_size]; exact ha) (min (L a).length (L b).length) 0 (by omega)

/-! ### the reference's Parts -/
theorem refParts_loop (s : ByteArray) (c : UInt8) (hs : (L s).length ≤ 1000000000) (d : Nat) : ∀ (i fr : Nat) (out : List ByteArray), i + d = (L s).length → fr ≤ i → c ∉ ((L s).drop fr).take (i - fr) → out.length ≤ i →
    Ev (fun k => graftwoodref01_Parts.l0 k s (c.toNat : Int) out fr i) (out ++ (partsL c ((L s).drop fr)).map fun x => ⟨x.toArray⟩) := by
  have sz := L_size s
  have hex : ∀ a b : Nat, s.extract a b = ⟨(((L s).drop a).take (b - a)).toArray⟩ := fun a b => by rw [← L_extract, mk_L]
  induction d with
  | zero =>
    intro i fr out hi hf hc ho
    refine ev_step (fun k => by rw [graftwoodref01_Parts.l0]) ?_
    refine ev_neg (by omega) (ev_pos (by omega) (ev_pos (by omega) (ev_pos (by omega) (ev_now ?_))))
    rw [List.take_of_length_le (by simp; omega)] at hc
    rw [partsL_whole c _ hc, Int.toNat_natCast, hex, List.take_of_length_le (by simp <;> omega)]
    rfl
  | succ d ih =>
    intro i fr out hi hf hc ho
    have hil : i < (L s).length := by omega
    have e := w_succ i (by omega)
    refine ev_step (fun k => by rw [graftwoodref01_Parts.l0]) ?_
    refine ev_pos (by omega) (ev_pos (by omega) ?_)
    refine ev_ite (fun h => ?_) (fun h => ?_)
    · have hx : (L s)[i] = c := by rw [bt_L s i hil] at h; exact UInt8.toNat_inj.1 (by omega)
      refine ev_pos (by omega) (ev_pos (by omega) (ev_pos (by omega) (ev_pos (by omega) ?_)))
      rw [e, Int.toNat_natCast, Int.toNat_natCast, hex]
      have hd : (L s).drop fr = ((L s).drop fr).take (i - fr) ++ c :: (L s).drop (i + 1) := by
        conv => lhs; rw [← List.take_append_drop (i - fr) ((L s).drop fr)]
        rw [List.drop_drop, show fr + (i - fr) = i by omega, List.drop_eq_getElem_cons hil, hx]
      have hr := ih (i + 1) (i + 1) (out ++ [⟨(((L s).drop fr).take (i - fr)).toArray⟩]) (by omega) (Nat.le_refl _) (by simp) (by simp; omega)
      rw [show (partsL c ((L s).drop fr)) = (((L s).drop fr).take (i - fr)) :: partsL c ((L s).drop (i + 1)) by
        conv => lhs; rw [hd]
        rw [partsL_append, partsL_whole c _ hc]; rfl]
      rw [List.append_assoc] at hr
      exact hr
    · have hx : ¬ (L s)[i] = c := fun hx => h (by rw [bt_L s i hil, hx])
      rw [e]
      refine ih (i + 1) fr out (by omega) (by omega) ?_ (by omega)
      rw [show i + 1 - fr = (i - fr) + 1 by omega, List.take_succ_eq_append_getElem (by simp; omega)]
      simp only [List.mem_append, List.mem_singleton, not_or, List.getElem_drop]
      refine ⟨hc, fun hh => hx ?_⟩
      rw [hh]
      congr 1
      omega
theorem refParts_ev (s : ByteArray) (c : Int) (h0 : 0 ≤ c) (h1 : c < 256) (hs : s.size ≤ 1000000000) : Ev (fun k => graftwoodref01_Parts.f k s c) (partsB c.toNat.toUInt8 s) := by
  have hc : (c.toNat.toUInt8.toNat : Int) = c := by
    have : c.toNat.toUInt8.toNat = c.toNat := by
      show (UInt8.ofNat c.toNat).toNat = _
      rw [UInt8.toNat_ofNat']
      omega
    omega
  have h := refParts_loop s c.toNat.toUInt8 (by rw [L_size]; exact hs) (L s).length 0 0 [] (by omega) (Nat.le_refl _) (by simp) (by simp)
  rw [hc] at h
  simpa [graftwoodref01_Parts.f, partsB] using h


/-! ### the reference's Class -/
theorem refClass_all : ∀ n : Fin 256, graftwoodref01_Class.f 5 (n.val : Int) = some (clsOf (n.val : Int)) := by decide +kernel
theorem refClass_ev (c : Int) (h0 : 0 ≤ c) (h1 : c < 256) : Ev (fun k => graftwoodref01_Class.f k c) (clsOf c) := by
  obtain ⟨n, rfl⟩ := Int.eq_ofNat_of_zero_le h0
  exact Ev.of (fun k => graftwoodref01_Class.mono _ k) (refClass_all ⟨n, by omega⟩)
theorem All_eq (s : ByteArray) (l : List Int) (hs : s.size ≤ 1000000000) : octet_All.f s l = some (allOf l (L s)) := by
  unfold octet_All.f
  rw [if_pos hs]
  rfl
end Go.Proofs.YtjneghnknfhboaaDoor.Q

/-
  What the printed functions of layers 2 (number) and 3 (version) and their references come to.
-/
namespace Go.Proofs.YtjneghnknfhboaaDoor.Q
open Go.RowKit Go.Proofs.YtjneghnknfhboaaDoor.P Go.Proofs.YtjneghnknfhboaaDoorB Go.Proofs.YtjneghnknfhboaaDoorW.PrintWords Go.Proofs.YtjneghnknfhboaaDoorW.PrintLast Go.Proofs.YtjneghnknfhboaaDoorW.PrintMore
set_option linter.unusedSimpArgs false
set_option linter.unusedVariables false

/-! ### numbers -/
def zeroOk : List UInt8 → Bool
  | [] => true
  | b :: l => !(b == 48) || l.isEmpty
def numL (l : List UInt8) : Bool := !l.isEmpty && allOf [1] l && zeroOk l
theorem number_May_eq (s : ByteArray) (hs : s.size ≤ 1000000000) : number_May.f s = some (numL (L s)) := by
  have sz := L_size s
  unfold number_May.f
  rw [toList_L, All_eq s [1] hs]
  cases hL : L s with
  | nil => rfl
  | cons b l =>
    rw [hL] at sz
    simp only [List.length_cons] at sz
    have h0 : bt s 0 = (b.toNat : Int) := by
      have := bt_L s 0 (by rw [hL]; simp)
      simpa [hL] using this
    rw [if_neg (by simp), Option.bind_some]
    unfold numL
    cases ha : allOf [1] (b :: l) with
    | false => rw [if_neg (by simp)]; simp
    | true =>
      rw [if_pos rfl, if_pos (by omega), h0]
      have hb48 : ((b.toNat : Int) = 48) ↔ b = 48 := ⟨fun e => UInt8.toNat_inj.1 (by have : (48 : UInt8).toNat = 48 := rfl; omega), fun e => by rw [e]; rfl⟩
      by_cases h : b = 48
      · rw [if_pos (hb48.2 h)]
        congr 1
        rw [Bool.eq_iff_iff, beq_iff_eq]
        unfold zeroOk
        rw [h]
        cases l with
        | nil => simp at sz ⊢; omega
        | cons c l => simp only [List.length_cons] at sz; simp; omega
      · rw [if_neg (fun e => h (hb48.1 e))]
        unfold zeroOk
        simp [h]
def cmpI (a b : Int) : Int := if a < b then -1 else if a > b then 1 else 0
def orL : List Int → Int
  | [] => 0
  | a :: l => if a = 0 then orL l else a
/-- Two numbers held against one another. -/
def numC (a b : List UInt8) : Int := if cmpI a.length b.length = 0 then cmpL a b else cmpI a.length b.length
def numbersL (a b : List UInt8) : Int := if numL a && numL b then numC a b else 0

/-! ### words -/
def wordsL (a b : List UInt8) : Int := if numL a then (if numL b then numC a b else -1) else if numL b then 1 else cmpL a b
def badL (l : List UInt8) : Bool := l.any fun b => ([46, 95, 126] : List UInt8).contains b
theorem indexAny_any (chars : List UInt8) : ∀ l : List UInt8, decide (Lib.indexAny l chars ≥ 0) = l.any fun b => chars.contains b
  | [] => rfl
  | b :: l => by
    have ih := indexAny_any chars l
    have hg := Lib.indexAny_ge chars l
    rw [Lib.indexAny, List.any_cons, ← ih]
    cases chars.contains b with
    | true => rfl
    | false =>
      rw [if_neg (by decide), Bool.false_or]
      by_cases h : Lib.indexAny l chars = -1
      · rw [if_pos (by rw [h]; rfl), h]
      · rw [if_neg (by simpa using h)]
        congr 1
        rw [eq_iff_iff]
        constructor <;> intro _ <;> omega
theorem ContainsAny_eq (s : ByteArray) (hs : s.size ≤ 1000000000) : strings_ContainsAny.f s (⟨#[46, 95, 126]⟩ : ByteArray) = some (badL (L s)) := by
  unfold strings_ContainsAny.f strings_IndexAny.f
  rw [if_pos ⟨hs, by decide, by decide, by decide⟩, Option.bind_some]
  congr 1
  exact indexAny_any _ _
def wordL (l : List UInt8) : Bool := !l.isEmpty && !badL l && allOf [1, 2, 3] l && (numL l || !allOf [1] l)
theorem word_ev (s : ByteArray) (hs : s.size ≤ 1000000000) : Ev (fun k => version_word.f k s) (wordL (L s)) := by
  have htrue : ∀ r, r = false → Ev (fun k => version_word.j0 k s true) r := by
    intro r hr
    refine ev_step (fun k => by rw [version_word.j0]) ?_
    exact ev_pos rfl (ev_now hr.symm)
  unfold version_word.f
  rw [ContainsAny_eq s hs, All_eq s _ hs, toList_L]
  simp only [Option.bind_some]
  unfold wordL
  refine ev_ite (fun h => htrue _ (by rw [h]; rfl)) (fun h => ?_)
  have hne : (L s).isEmpty = false := by
    cases hL : L s with
    | nil => exact absurd hL h
    | cons => rfl
  rw [hne]
  cases badL (L s) with
  | true => exact ev_pos rfl (htrue _ rfl)
  | false =>
    refine ev_neg (by decide) ?_
    cases allOf [1, 2, 3] (L s) with
    | false => exact htrue _ rfl
    | true =>
      refine ev_step (fun k => by rw [version_word.j0]) ?_
      refine ev_neg (by decide) ?_
      rw [number_May_eq s hs, All_eq s _ hs]
      simp only [Option.bind_some]
      cases numL (L s) with
      | true => exact ev_pos rfl (ev_now rfl)
      | false => exact ev_neg (by decide) (ev_now rfl)

/-! ### cut -/
def cutL : List UInt8 → List UInt8 × List UInt8 × Bool
  | [] => ([], [], false)
  | b :: l => if b = 45 then ([], l, true) else (b :: (cutL l).1, (cutL l).2.1, (cutL l).2.2)
theorem cutL_index : ∀ l : List UInt8, (Lib.indexByte l 45 = -1 ∧ cutL l = (l, [], false)) ∨ ∃ i : Nat, Lib.indexByte l 45 = i ∧ i < l.length ∧ cutL l = (l.take i, l.drop (i + 1), true)
  | [] => .inl ⟨rfl, rfl⟩
  | b :: l => by
    rw [Lib.indexByte, cutL]
    by_cases h : b = 45
    · right
      rw [if_pos (by simp [h]), if_pos h]
      exact ⟨0, rfl, by simp, rfl⟩
    · rw [if_neg (by simp [h]), if_neg h]
      rcases cutL_index l with ⟨h1, h2⟩ | ⟨i, h1, h2, h3⟩
      · left
        rw [h1, h2]
        exact ⟨rfl, rfl⟩
      · right
        refine ⟨i + 1, ?_, by simp; omega, by rw [h3]; rfl⟩
        rw [h1, if_neg (by simp only [beq_iff_eq]; omega)]
        rfl
def mkB (l : List UInt8) : ByteArray := ⟨l.toArray⟩
theorem L_mkB (l : List UInt8) : L (mkB l) = l := rfl
theorem mkB_size (l : List UInt8) : (mkB l).size = l.length := by rw [← L_size, L_mkB]
theorem mkB_L (s : ByteArray) : mkB (L s) = s := mk_L s
theorem Cut_eq (s : ByteArray) (hs : s.size ≤ 1000000000) : strings_Cut.f s (⟨#[45]⟩ : ByteArray) = some (mkB (cutL (L s)).1, mkB (cutL (L s)).2.1, (cutL (L s)).2.2) := by
  have sz := L_size s
  unfold strings_Cut.f stringslite_Cut.f stringslite_Index.f
  rw [if_pos (show (⟨#[45]⟩ : ByteArray).size = 1 from rfl), Option.bind_some]
  have hsep : (⟨#[45]⟩ : ByteArray).size = 1 := rfl
  have hix : Lib.indexByte s.data.toList (List.headD (⟨#[45]⟩ : ByteArray).data.toList 0) = Lib.indexByte (L s) 45 := rfl
  rw [hix, hsep]
  rcases cutL_index (L s) with ⟨h1, h2⟩ | ⟨i, h1, h2, h3⟩
  · rw [h1, h2, if_neg (by decide), Option.bind_some]
    simp only [mkB_L]
    rfl
  · have hw : wrap64 ((i : Int) + (1 : Nat)) = ((i + 1 : Nat) : Int) := w_succ i (by omega)
    rw [h1, h3, hw, if_pos (by omega), if_pos (by omega), if_pos (by omega), if_pos (by omega), if_pos (by omega), Option.bind_some]
    simp only [Int.toNat_natCast]
    congr 1
    refine Prod.ext ?_ (Prod.ext ?_ rfl)
    · refine L_inj ?_
      rw [L_extract, List.drop_zero, Nat.sub_zero]; rfl
    · refine L_inj ?_
      rw [L_extract, List.take_of_length_le (by rw [List.length_drop]; omega)]; rfl
theorem cutL_sizes (l : List UInt8) : (cutL l).1.length ≤ l.length ∧ (cutL l).2.1.length ≤ l.length := by
  rcases cutL_index l with ⟨-, h⟩ | ⟨i, -, h2, h⟩
  · rw [h]; simp
  · rw [h]; simp only [List.length_take, List.length_drop]; omega

/-! ### versions -/
structure Ver where
  a : List UInt8
  b : List UInt8
  c : List UInt8
  p : List (List UInt8)
def coreL (l : List UInt8) : Option (List UInt8 × List UInt8 × List UInt8) := match partsL 46 l with
  | [a, b, c] => if numL a && numL b && numL c then some (a, b, c) else none
  | _ => none
def splitC (core pre : List UInt8) (has : Bool) : Option Ver := match coreL core with
  | some (a, b, c) => if has then (if (partsL 46 pre).all wordL then some ⟨a, b, c, partsL 46 pre⟩ else none) else some ⟨a, b, c, []⟩
  | none => none
def splitL : List UInt8 → Option Ver
  | [] => none
  | v :: t => if v = 118 then splitC (cutL t).1 (cutL t).2.1 (cutL t).2.2 else none
theorem splitL_cons (v : UInt8) (t : List UInt8) : splitL (v :: t) = if v = 118 then splitC (cutL t).1 (cutL t).2.1 (cutL t).2.2 else none := rfl
def verR : Option Ver → ByteArray × ByteArray × ByteArray × List ByteArray × Int
  | some v => (mkB v.a, mkB v.b, mkB v.c, v.p.map mkB, 0)
  | none => (⟨#[]⟩, ⟨#[]⟩, ⟨#[]⟩, [], 1)
theorem Split_loop (x : List ByteArray) (a b c : ByteArray) (p : List ByteArray) (hx : x.length ≤ 1000000001) (hm : ∀ s, s ∈ x → s.size ≤ 1000000000) (d : Nat) : ∀ i : Nat, i + d = x.length →
    Ev (fun k => version_Split.l0 k x x.length i a b c p) (if (x.drop i).all fun s => wordL (L s) then (a, b, c, p, 0) else (⟨#[]⟩, ⟨#[]⟩, ⟨#[]⟩, [], 1)) := by
  induction d with
  | zero =>
    intro i hi
    refine ev_step (fun k => by rw [version_Split.l0]) ?_
    refine ev_neg (by omega) (ev_now ?_)
    rw [List.drop_eq_nil_of_le (by omega)]; rfl
  | succ d ih =>
    intro i hi
    have hil : i < x.length := by omega
    refine ev_step (fun k => by rw [version_Split.l0]) ?_
    refine ev_pos (by omega) (ev_pos (by omega) (ev_pos (by omega) ?_))
    rw [rdOf_at _ x i hil, w_succ i (by omega), List.drop_eq_getElem_cons hil, List.all_cons]
    refine ev_bind (word_ev _ (hm _ (List.getElem_mem _))) ?_
    refine ev_ite (fun h => ?_) (fun h => ?_)
    · rw [h, Bool.true_and]
      exact ih (i + 1) (by omega)
    · have h' : wordL (L x[i]) = false := by simpa using h
      rw [h', Bool.false_and]
      exact ev_now rfl
theorem partsB_mk (c : UInt8) (l : List UInt8) : partsB c (mkB l) = (partsL c l).map mkB := rfl
theorem HasPrefix_v (s : ByteArray) : strings_HasPrefix.f s (⟨#[118]⟩ : ByteArray) = some (match L s with | [] => false | b :: _ => b == 118) := by
  have sz := L_size s
  unfold strings_HasPrefix.f stringslite_HasPrefix.f
  have h1 : (⟨#[118]⟩ : ByteArray).size = 1 := rfl
  rw [h1]
  cases hL : L s with
  | nil =>
    rw [hL] at sz
    simp only [List.length_nil] at sz
    rw [if_neg (by omega)]; rfl
  | cons b l =>
    rw [hL] at sz
    simp only [List.length_cons] at sz
    rw [if_pos (by omega), if_pos (by omega), if_pos (by omega), Option.bind_some]
    congr 1
    have : (s.extract 0 ((1 : Nat) : Int).toNat).toList = [b] := by
      rw [toList_L, L_extract, hL]; rfl
    rw [this]
    have h2 : (⟨#[118]⟩ : ByteArray).toList = [118] := by rw [toList_L]; rfl
    rw [h2]
    simp
theorem Split_ev (s : ByteArray) (hs : s.size ≤ 1000000) : Ev (fun k => version_Split.f k s) (verR (splitL (L s))) := by
  have sz := L_size s
  unfold version_Split.f
  rw [HasPrefix_v]
  refine ev_some ?_
  cases hL : L s with
  | nil => exact ev_neg (by decide) (ev_now rfl)
  | cons v t =>
    rw [hL] at sz
    simp only [List.length_cons] at sz
    by_cases hv : v = 118
    case neg => exact ev_neg (by simp [hv]) (ev_now (by rw [splitL_cons, if_neg hv]; rfl))
    refine ev_pos (by simp [hv]) (ev_pos (by omega) ?_)
    have ht : s.extract 1 s.size = mkB t := by
      refine L_inj ?_
      rw [L_extract, hL, L_mkB]
      show List.take _ t = t
      exact List.take_of_length_le (by omega)
    rw [ht, Cut_eq _ (by rw [mkB_size]; omega), L_mkB]
    simp only [Option.bind_some]
    rw [splitL_cons, if_pos hv]
    have hcs := cutL_sizes t
    generalize cutL t = ct at *
    obtain ⟨core, pre, has⟩ := ct
    simp only at hcs ⊢
    rw [Parts_eq _ 46 (by decide) (by decide) (by rw [mkB_size]; omega)]
    simp only [Option.bind_some]
    have h46 : (46 : Int).toNat.toUInt8 = 46 := rfl
    rw [h46, partsB_mk]
    have hcl := (partsL_length 46 core).1
    have hple := part_le 46 core
    have hbad : ∀ (x : ByteArray) (y : Bool) (z : List ByteArray), Ev (fun k => version_Split.j0 k x y z true) (verR none) := by
      intro x y z
      refine ev_step (fun k => by rw [version_Split.j0]) ?_
      exact ev_pos rfl (ev_now rfl)
    unfold splitC coreL
    rcases hpl : partsL 46 core with _ | ⟨a, _ | ⟨b, _ | ⟨c, _ | ⟨d, r⟩⟩⟩⟩
    · exact ev_neg (by decide) (hbad _ _ _)
    · exact ev_neg (by simp) (hbad _ _ _)
    · exact ev_neg (by simp) (hbad _ _ _)
    · rw [hpl] at hple
      have la := hple a (by simp)
      have lb := hple b (by simp)
      have lc := hple c (by simp)
      refine ev_pos rfl (ev_pos (by simp) ?_)
      have r0 : rdOf ByteArray.empty (List.map mkB [a, b, c]) 0 = mkB a := rfl
      have r1 : rdOf ByteArray.empty (List.map mkB [a, b, c]) 1 = mkB b := rfl
      have r2 : rdOf ByteArray.empty (List.map mkB [a, b, c]) 2 = mkB c := rfl
      rw [r0, r1, r2, number_May_eq _ (by rw [mkB_size]; omega), number_May_eq _ (by rw [mkB_size]; omega), number_May_eq _ (by rw [mkB_size]; omega), L_mkB, L_mkB, L_mkB]
      simp only [Option.bind_some]
      cases numL a with
      | false => exact ev_neg (by decide) (hbad _ _ _)
      | true =>
        refine ev_pos rfl (ev_pos (by simp) ?_)
        cases numL b with
        | false => exact ev_neg (by decide) (hbad _ _ _)
        | true =>
          refine ev_pos rfl (ev_pos (by simp) ?_)
          cases numL c with
          | false => exact hbad _ _ _
          | true =>
            refine ev_step (fun k => by rw [version_Split.j0]) ?_
            refine ev_neg (by decide) (ev_pos (by simp) (ev_pos (by simp) (ev_pos (by simp) ?_)))
            rw [r0, r1, r2]
            cases has with
            | false => exact ev_neg (by decide) (ev_now rfl)
            | true =>
              refine ev_pos rfl ?_
              rw [Parts_eq _ 46 (by decide) (by decide) (by rw [mkB_size]; omega), h46, partsB_mk]
              refine ev_some ?_
              have hpl2 := (partsL_length 46 pre).1
              have hp2 := part_le 46 pre
              have h := Split_loop ((partsL 46 pre).map mkB) (mkB a) (mkB b) (mkB c) ((partsL 46 pre).map mkB) (by rw [List.length_map]; omega) (fun x hx => by
                obtain ⟨y, hy, rfl⟩ := List.mem_map.1 hx
                have := hp2 y hy
                rw [mkB_size]; omega) ((partsL 46 pre).map mkB).length 0 (by omega)
              have he : (((partsL 46 pre).map mkB).drop 0).all (fun s => wordL (L s)) = (partsL 46 pre).all wordL := by
                rw [List.drop_zero, List.all_map]; rfl
              rw [he] at h
              simp only [Bool.and_self, if_true]
              revert h
              cases (partsL 46 pre).all wordL <;> exact fun h => h
    · exact ev_neg (by simp; omega) (hbad _ _ _)
def verOk (l : List UInt8) : Bool := (splitL l).isSome
theorem verMay_ev (s : ByteArray) (hs : s.size ≤ 1000000) : Ev (fun k => version_May.f k s) (verOk (L s)) := by
  unfold version_May.f
  refine ev_bind (Split_ev s hs) (ev_now ?_)
  unfold verOk
  cases splitL (L s) <;> rfl

/-! ### orders -/
structure Tot {α : Type} (c : α → α → Int) : Prop where
  flip : ∀ a b, c b a = - c a b
  zero : ∀ a b, c a b = 0 ↔ a = b
  trans : ∀ a b d, c a b ≤ 0 → c b d ≤ 0 → c a d ≤ 0
theorem Tot.strictL {α : Type} {c : α → α → Int} (h : Tot c) {a b d : α} (h1 : c a b < 0) (h2 : c b d ≤ 0) : c a d < 0 := by
  have h3 := h.trans a b d (by omega) h2
  rcases Int.lt_or_eq_of_le h3 with h4 | h4
  · exact h4
  · have e := (h.zero a d).1 h4
    subst e
    have := h.flip a b
    omega
theorem tot_cmpL : Tot cmpL where
  flip := cmpL_flip
  zero := fun _ _ => cmpL_zero
  trans := fun a b d h1 h2 => cmpL_le.2 (List.le_trans (cmpL_le.1 h1) (cmpL_le.1 h2))
theorem cmpI_flip (a b : Int) : cmpI b a = - cmpI a b := by unfold cmpI; split <;> split <;> first | omega | (split <;> omega) | rfl
theorem cmpI_zero (a b : Int) : cmpI a b = 0 ↔ a = b := by unfold cmpI; split <;> (try split) <;> omega
theorem cmpI_le (a b : Int) : cmpI a b ≤ 0 ↔ a ≤ b := by unfold cmpI; split <;> (try split) <;> omega
def lexC {α β : Type} (c1 : α → α → Int) (c2 : β → β → Int) (x y : α × β) : Int := if c1 x.1 y.1 = 0 then c2 x.2 y.2 else c1 x.1 y.1
theorem tot_lex {α β : Type} {c1 : α → α → Int} {c2 : β → β → Int} (h1 : Tot c1) (h2 : Tot c2) : Tot (lexC c1 c2) where
  flip := by
    intro x y
    unfold lexC
    have f1 := h1.flip x.1 y.1
    have f2 := h2.flip x.2 y.2
    by_cases h : c1 x.1 y.1 = 0
    · rw [if_pos h, if_pos (by omega)]; exact f2
    · rw [if_neg h, if_neg (by omega)]; exact f1
  zero := by
    intro x y
    unfold lexC
    by_cases h : c1 x.1 y.1 = 0
    · rw [if_pos h, h2.zero]
      exact ⟨fun e => Prod.ext ((h1.zero _ _).1 h) e, fun e => by rw [e]⟩
    · rw [if_neg h]
      exact ⟨fun e => absurd e h, fun e => absurd ((h1.zero _ _).2 (by rw [e])) h⟩
  trans := by
    intro x y z e1 e2
    unfold lexC at *
    by_cases ha : c1 x.1 y.1 = 0
    · rw [if_pos ha] at e1
      have hxy := (h1.zero _ _).1 ha
      rw [hxy]
      by_cases hb : c1 y.1 z.1 = 0
      · rw [if_pos hb] at e2 ⊢
        exact h2.trans _ _ _ e1 e2
      · rw [if_neg hb] at e2 ⊢
        exact e2
    · rw [if_neg ha] at e1
      by_cases hb : c1 y.1 z.1 = 0
      · have hyz := (h1.zero _ _).1 hb
        rw [← hyz, if_neg ha]; exact e1
      · rw [if_neg hb] at e2
        have := h1.strictL (a := x.1) (b := y.1) (d := z.1) (by omega) e2
        rw [if_neg (by omega)]; omega
def listC {α : Type} (c : α → α → Int) : List α → List α → Int
  | [], [] => 0
  | [], _ :: _ => -1
  | _ :: _, [] => 1
  | a :: x, b :: y => if c a b = 0 then listC c x y else c a b
theorem tot_list {α : Type} {c : α → α → Int} (h : Tot c) : Tot (listC c) where
  flip := by
    intro x
    induction x with
    | nil => intro y; cases y <;> rfl
    | cons a x ih =>
      intro y
      cases y with
      | nil => rfl
      | cons b y =>
        unfold listC
        have f := h.flip a b
        by_cases e : c a b = 0
        · rw [if_pos e, if_pos (by omega)]; exact ih y
        · rw [if_neg e, if_neg (by omega)]; exact f
  zero := by
    intro x
    induction x with
    | nil => intro y; cases y <;> simp [listC]
    | cons a x ih =>
      intro y
      cases y with
      | nil => simp [listC]
      | cons b y =>
        unfold listC
        by_cases e : c a b = 0
        · rw [if_pos e, ih y, (h.zero a b).1 e]; simp
        · rw [if_neg e]
          exact ⟨fun h0 => absurd h0 e, fun h0 => absurd ((h.zero a b).2 (List.cons.inj h0).1) e⟩
  trans := by
    intro x
    induction x with
    | nil => intro y z h1 h2; cases z <;> simp [listC]
    | cons a x ih =>
      intro y z h1 h2
      cases y with
      | nil => simp [listC] at h1
      | cons b y =>
        cases z with
        | nil => simp [listC] at h2
        | cons d z =>
          unfold listC at h1 h2 ⊢
          by_cases e1 : c a b = 0
          · rw [if_pos e1] at h1
            have hab := (h.zero a b).1 e1
            rw [hab]
            by_cases e2 : c b d = 0
            · rw [if_pos e2] at h2 ⊢
              exact ih y z h1 h2
            · rw [if_neg e2] at h2 ⊢; exact h2
          · rw [if_neg e1] at h1
            by_cases e2 : c b d = 0
            · have hbd := (h.zero b d).1 e2
              rw [← hbd, if_neg e1]; exact h1
            · rw [if_neg e2] at h2
              have := h.strictL (a := a) (b := b) (d := d) (by omega) h2
              rw [if_neg (by omega)]; omega
theorem tot_numC : Tot numC where
  flip := by
    intro a b
    unfold numC
    have f1 := cmpI_flip (a.length : Int) b.length
    have f2 := cmpL_flip a b
    by_cases h : cmpI (a.length : Int) b.length = 0
    · rw [if_pos h, if_pos (by omega)]; exact f2
    · rw [if_neg h, if_neg (by omega)]; exact f1
  zero := by
    intro a b
    unfold numC
    by_cases h : cmpI (a.length : Int) b.length = 0
    · rw [if_pos h, cmpL_zero]
    · rw [if_neg h]
      exact ⟨fun e => absurd e h, fun e => absurd ((cmpI_zero _ _).2 (by rw [e])) h⟩
  trans := by
    intro a b d h1 h2
    unfold numC at *
    have z1 := cmpI_zero (a.length : Int) b.length
    have z2 := cmpI_zero (b.length : Int) d.length
    have z3 := cmpI_zero (a.length : Int) d.length
    have l1 := cmpI_le (a.length : Int) b.length
    have l2 := cmpI_le (b.length : Int) d.length
    have l3 := cmpI_le (a.length : Int) d.length
    by_cases e1 : cmpI (a.length : Int) b.length = 0
    · rw [if_pos e1] at h1
      have e1' := z1.1 e1
      by_cases e2 : cmpI (b.length : Int) d.length = 0
      · rw [if_pos e2] at h2
        have e2' := z2.1 e2
        rw [if_pos (z3.2 (by omega))]
        exact tot_cmpL.trans _ _ _ h1 h2
      · rw [if_neg e2] at h2
        have h2' := l2.1 h2
        rw [if_neg (fun e => e2 (z2.2 (by have := z3.1 e; omega)))]
        exact l3.2 (by omega)
    · rw [if_neg e1] at h1
      have h1' := l1.1 h1
      by_cases e2 : cmpI (b.length : Int) d.length = 0
      · have e2' := z2.1 e2
        rw [if_neg (fun e => e1 (z1.2 (by have := z3.1 e; omega)))]
        exact l3.2 (by omega)
      · rw [if_neg e2] at h2
        have h2' := l2.1 h2
        rw [if_neg (fun e => e1 (z1.2 (by have := z3.1 e; omega)))]
        exact l3.2 (by omega)
theorem tot_words : Tot wordsL where
  flip := by
    intro a b
    unfold wordsL
    cases numL a <;> cases numL b
    · exact cmpL_flip a b
    · rfl
    · rfl
    · exact tot_numC.flip a b
  zero := by
    intro a b
    unfold wordsL
    cases ha : numL a <;> cases hb : numL b
    · exact cmpL_zero
    · simp; intro e; rw [e, hb] at ha; cases ha
    · simp; intro e; rw [e, hb] at ha; cases ha
    · exact tot_numC.zero a b
  trans := by
    intro a b d h1 h2
    unfold wordsL at *
    cases ha : numL a <;> cases hb : numL b <;> cases hd : numL d <;> simp only [ha, hb, hd, if_true, Bool.false_eq_true, if_false] at h1 h2 ⊢
    · exact tot_cmpL.trans _ _ _ h1 h2
    · omega
    · omega
    · omega
    · omega
    · omega
    · omega
    · exact tot_numC.trans _ _ _ h1 h2
/-- The words behind: none comes last. -/
def preV (x y : List (List UInt8)) : Int := if x.isEmpty || y.isEmpty then cmpI y.length x.length else listC wordsL x y
theorem tot_preV : Tot preV where
  flip := by
    intro x y
    unfold preV
    have f1 := cmpI_flip (y.length : Int) x.length
    have f2 := (tot_list tot_words).flip x y
    cases x <;> cases y <;> first | exact f1 | exact f2
  zero := by
    intro x y
    unfold preV
    have f2 := (tot_list tot_words).zero x y
    cases x with
    | nil =>
      cases y with
      | nil => exact ⟨fun _ => rfl, fun _ => rfl⟩
      | cons b y => first | (simp [cmpI]; done) | (simp [cmpI]; omega)
    | cons a x =>
      cases y with
      | nil => first | (simp [cmpI]; done) | (simp [cmpI]; omega)
      | cons b y => exact f2
  trans := by
    intro x y z h1 h2
    unfold preV at *
    cases x with
    | nil =>
      cases y with
      | nil => exact h2
      | cons b y =>
        have h1' : cmpI ((b :: y).length : Int) (([] : List (List UInt8)).length : Int) ≤ 0 := h1
        exact absurd ((cmpI_le _ _).1 h1') (by simp only [List.length_cons, List.length_nil]; omega)
    | cons a x =>
      cases z with
      | nil =>
        show cmpI (([] : List (List UInt8)).length : Int) ((a :: x).length : Int) ≤ 0
        exact (cmpI_le _ _).2 (by simp only [List.length_cons, List.length_nil]; omega)
      | cons d z =>
        cases y with
        | nil =>
          have h2' : cmpI ((d :: z).length : Int) (([] : List (List UInt8)).length : Int) ≤ 0 := h2
          exact absurd ((cmpI_le _ _).1 h2') (by simp only [List.length_cons, List.length_nil]; omega)
        | cons b y => exact (tot_list tot_words).trans _ _ _ h1 h2
def verP (v : Ver) : List UInt8 × List UInt8 × List UInt8 × List (List UInt8) := (v.a, v.b, v.c, v.p)
def verC (x y : Ver) : Int := lexC numC (lexC numC (lexC numC preV)) (verP x) (verP y)
theorem tot_ver : Tot verC where
  flip := fun x y => (tot_lex tot_numC (tot_lex tot_numC (tot_lex tot_numC tot_preV))).flip (verP x) (verP y)
  zero := fun x y => by
    refine ((tot_lex tot_numC (tot_lex tot_numC (tot_lex tot_numC tot_preV))).zero (verP x) (verP y)).trans ?_
    constructor
    · intro h
      obtain ⟨a, b, c, p⟩ := x
      obtain ⟨a', b', c', p'⟩ := y
      simp only [verP, Prod.mk.injEq] at h
      obtain ⟨rfl, rfl, rfl, rfl⟩ := h
      rfl
    · intro h; rw [h]
  trans := fun x y z h1 h2 => (tot_lex tot_numC (tot_lex tot_numC (tot_lex tot_numC tot_preV))).trans (verP x) (verP y) (verP z) h1 h2
theorem verC_eq (x y : Ver) : verC x y = if numC x.a y.a = 0 then (if numC x.b y.b = 0 then (if numC x.c y.c = 0 then preV x.p y.p else numC x.c y.c) else numC x.b y.b) else numC x.a y.a := rfl
/-! ### Cmp -/
theorem coreL_some {l a b c : List UInt8} (h : coreL l = some (a, b, c)) : partsL 46 l = [a, b, c] ∧ numL a = true ∧ numL b = true ∧ numL c = true := by
  unfold coreL at h
  split at h
  · rename_i a' b' c' hp
    split at h
    · rename_i hn
      simp only [Option.some.injEq, Prod.mk.injEq] at h
      obtain ⟨rfl, rfl, rfl⟩ := h
      simp only [Bool.and_eq_true] at hn
      exact ⟨hp, hn.1.1, hn.1.2, hn.2⟩
    · cases h
  · cases h
theorem splitL_some {l : List UInt8} {v : Ver} (h : splitL l = some v) : ∃ t, l = 118 :: t ∧ partsL 46 (cutL t).1 = [v.a, v.b, v.c] ∧ numL v.a = true ∧ numL v.b = true ∧ numL v.c = true ∧ v.p.all wordL = true ∧ (if (cutL t).2.2 then v.p = partsL 46 (cutL t).2.1 else v.p = []) := by
  cases l with
  | nil => cases h
  | cons b t =>
    rw [splitL_cons] at h
    unfold splitC at h
    split at h
    · rename_i hb
      split at h
      · rename_i a b c hc
        obtain ⟨h1, h2, h3, h4⟩ := coreL_some hc
        split at h
        · rename_i hh
          split at h
          · rename_i hw
            obtain rfl := Option.some.inj h
            exact ⟨t, by rw [hb], h1, h2, h3, h4, hw, by rw [if_pos hh]⟩
          · cases h
        · rename_i hh
          obtain rfl := Option.some.inj h
          exact ⟨t, by rw [hb], h1, h2, h3, h4, rfl, by rw [if_neg hh]⟩
      · cases h
    · cases h
theorem splitL_sizes {l : List UInt8} {v : Ver} (h : splitL l = some v) : v.a.length ≤ l.length ∧ v.b.length ≤ l.length ∧ v.c.length ≤ l.length ∧ v.p.length ≤ l.length + 1 ∧ ∀ x, x ∈ v.p → x.length ≤ l.length := by
  obtain ⟨t, rfl, hp, -, -, -, -, hq⟩ := splitL_some h
  have hs := cutL_sizes t
  have hpl := part_le 46 (cutL t).1
  rw [hp] at hpl
  have h1 := hpl v.a (by simp)
  have h2 := hpl v.b (by simp)
  have h3 := hpl v.c (by simp)
  simp only [List.length_cons]
  refine ⟨by omega, by omega, by omega, ?_⟩
  split at hq
  · rw [hq]
    have := (partsL_length 46 (cutL t).2.1).1
    refine ⟨by omega, fun x hx => ?_⟩
    have := part_le 46 _ x hx
    omega
  · rw [hq]; simp
def cmpR (x y : Option Ver) : Int × Int := match x, y with
  | some v, some w => (verC v w, 0)
  | _, _ => (0, 1)
theorem map_L_mkB (l : List (List UInt8)) : (l.map mkB).map L = l := by
  rw [List.map_map]
  exact List.map_id'' (fun _ => rfl) _
/-! ### put together -/
def joinV (v : Ver) : List UInt8 := 118 :: ((v.a ++ 46 :: (v.b ++ 46 :: v.c)) ++ (if v.p.isEmpty then [] else 45 :: joinL 46 v.p))
def verOkV (v : Ver) : Bool := numL v.a && numL v.b && numL v.c && v.p.all wordL
theorem cutL_back : ∀ l : List UInt8, (cutL l).1 ++ (if (cutL l).2.2 then 45 :: (cutL l).2.1 else []) = l
  | [] => rfl
  | b :: l => by
    have ih := cutL_back l
    rw [cutL]
    by_cases h : b = 45
    · rw [if_pos h, h]; rfl
    · rw [if_neg h]
      simp only [List.cons_append]
      rw [ih]
theorem num_all {l : List UInt8} (h : numL l = true) : allOf [1] l = true := by
  unfold numL at h
  simp only [Bool.and_eq_true] at h
  exact h.1.2
theorem core_of {l a b c : List UInt8} (h : partsL 46 l = [a, b, c]) : l = a ++ 46 :: (b ++ 46 :: c) := by
  have := joinL_parts 46 l
  rw [h] at this
  exact this.symm
theorem join_of_split {l : List UInt8} {v : Ver} (h : splitL l = some v) : joinV v = l := by
  obtain ⟨t, rfl, hp, -, -, -, -, hq⟩ := splitL_some h
  have hcore := core_of hp
  have hback := cutL_back t
  unfold joinV
  rw [← hcore]
  congr 1
  conv => rhs; rw [← hback]
  cases hf : (cutL t).2.2 with
  | true =>
    rw [hf, if_pos rfl] at hq
    have hne : v.p.isEmpty = false := by
      rw [hq]
      have := partsL_ne 46 (cutL t).2.1
      cases hx : partsL 46 (cutL t).2.1 with
      | nil => exact absurd hx this
      | cons => rfl
    rw [hne, hq, joinL_parts]; rfl
  | false =>
    rw [hf, if_neg (by decide)] at hq
    rw [hq]; rfl
theorem splitL_inj {l m : List UInt8} {v : Ver} (h : splitL l = some v) (h' : splitL m = some v) : l = m := (join_of_split h).symm.trans (join_of_split h')
end Go.Proofs.YtjneghnknfhboaaDoor.Q

/-
  What the references of layers 2 (number) and 3 (version) come to.
-/
namespace Go.Proofs.YtjneghnknfhboaaDoor.Q
open Go.RowKit Go.Proofs.YtjneghnknfhboaaDoor.P Go.Proofs.YtjneghnknfhboaaDoorB Go.Proofs.YtjneghnknfhboaaDoorW.PrintWords Go.Proofs.YtjneghnknfhboaaDoorW.PrintLast Go.Proofs.YtjneghnknfhboaaDoorW.PrintMore
set_option linter.unusedSimpArgs false
set_option linter.unusedVariables false
def dig (c : Int) : Int := if c < 48 then -1 else if c > 57 then -1 else c - 48
theorem digit_eq (c : Int) (h0 : 0 ≤ c) (h1 : c < 256) : graftwoodref02_digit.f c = some (dig c) := by
  unfold graftwoodref02_digit.f dig
  split
  · rfl
  · split
    · rfl
    · rw [w_id (i := c) (by omega) (by omega), w_id (by omega) (by omega)]
theorem cls_one (c : Int) (h0 : 0 ≤ c) : ([1] : List Int).contains (clsOf c) = decide (0 ≤ dig c) := by
  unfold clsOf dig
  rw [Bool.eq_iff_iff, List.contains_iff_mem, List.mem_singleton, decide_eq_true_eq]
  repeat' split
  all_goals omega
theorem refNumMay_loop (s : ByteArray) (hs : (L s).length ≤ 1000000000) (d : Nat) : ∀ i : Nat, i + d = (L s).length → Ev (fun k => graftwoodref02_May.l0 k s i) (allOf [1] ((L s).drop i) && (!(L s).isEmpty && zeroOk (L s))) := by
  have sz := L_size s
  induction d with
  | zero =>
    intro i hi
    refine ev_step (fun k => by rw [graftwoodref02_May.l0]) ?_
    refine ev_neg (by omega) ?_
    rw [List.drop_eq_nil_of_le (by omega)]
    show Ev _ (!(L s).isEmpty && zeroOk (L s))
    cases hL : L s with
    | nil =>
      rw [hL] at sz
      simp only [List.length_nil] at sz
      exact ev_neg (by omega) (ev_neg (by omega) (ev_now rfl))
    | cons b l =>
      rw [hL] at sz
      simp only [List.length_cons] at sz
      have h0 : bt s 0 = (b.toNat : Int) := by
        have := bt_L s 0 (by rw [hL]; simp)
        simpa [hL] using this
      have hb48 : ((b.toNat : Int) = 48) ↔ b = 48 := ⟨fun e => UInt8.toNat_inj.1 (by have : (48 : UInt8).toNat = 48 := rfl; omega), fun e => by rw [e]; rfl⟩
      unfold zeroOk
      cases l with
      | nil =>
        simp only [List.length_nil] at sz
        exact ev_pos (by omega) (ev_now (by simp))
      | cons c l =>
        simp only [List.length_cons] at sz
        refine ev_neg (by omega) (ev_pos (by omega) (ev_pos (by omega) (ev_now ?_)))
        rw [h0]
        rw [Bool.eq_iff_iff, bne_iff_ne]
        simp [hb48]
  | succ d ih =>
    intro i hi
    have hil : i < (L s).length := by omega
    have hb := (L s)[i].toNat_lt
    refine ev_step (fun k => by rw [graftwoodref02_May.l0]) ?_
    refine ev_pos (by omega) (ev_pos (by omega) ?_)
    rw [bt_L s i hil, digit_eq _ (by omega) (by omega), w_succ i (by omega), List.drop_eq_getElem_cons hil]
    refine ev_some ?_
    have hc : allOf [1] ((L s)[i] :: (L s).drop (i + 1)) = (decide (0 ≤ dig ((L s)[i].toNat : Int)) && allOf [1] ((L s).drop (i + 1))) := by
      unfold allOf
      rw [List.all_cons, cls_one _ (by omega)]
    rw [hc]
    refine ev_ite (fun h => ?_) (fun h => ?_)
    · rw [decide_eq_false (by omega)]; exact ev_now rfl
    · rw [decide_eq_true (by omega), Bool.true_and]
      exact ih (i + 1) (by omega)
theorem refNumMay_ev (s : ByteArray) (hs : s.size ≤ 1000000000) : Ev (fun k => graftwoodref02_May.f k s) (numL (L s)) := by
  unfold graftwoodref02_May.f
  have h := refNumMay_loop s (by rw [L_size]; exact hs) (L s).length 0 (by omega)
  rw [List.drop_zero] at h
  have e : (allOf [1] (L s) && (!(L s).isEmpty && zeroOk (L s))) = numL (L s) := by
    unfold numL
    cases allOf [1] (L s) <;> cases (L s).isEmpty <;> cases zeroOk (L s) <;> rfl
  rw [e] at h
  exact h

/-! ### the reference's Cmp of numbers -/
theorem at_in (s : ByteArray) (j t : Nat) (hs : (L s).length ≤ 1000000000) (h : t + j + 1 = (L s).length) : graftwoodref02_at.f s j = some (dig ((L s)[t]'(by omega)).toNat) := by
  have sz := L_size s
  have hb := ((L s)[t]'(by omega)).toNat_lt
  unfold graftwoodref02_at.f
  have hw : wrap64 (wrap64 ((s.size : Int) - 1) - (j : Int)) = (t : Int) := by
    rw [w_id (i := (s.size : Int) - 1) (by omega) (by omega), w_id (by omega) (by omega)]; omega
  rw [if_neg (by omega), hw, if_pos (by omega), if_pos (by omega), bt_L s t (by omega), digit_eq _ (by omega) (by omega)]
  rfl
theorem at_out (s : ByteArray) (j : Nat) (h : (L s).length ≤ j) : graftwoodref02_at.f s j = some 0 := by
  have sz := L_size s
  unfold graftwoodref02_at.f
  rw [if_pos (by omega)]
theorem num_dig {l : List UInt8} (h : numL l = true) (b : UInt8) (hb : b ∈ l) : 48 ≤ b.toNat ∧ b.toNat ≤ 57 := by
  have h1 := List.all_eq_true.1 (num_all h) b hb
  rw [cls_one _ (by omega), decide_eq_true_eq] at h1
  unfold dig at h1
  split at h1
  · omega
  · split at h1 <;> omega
theorem refNumCmp_loop (a b : ByteArray) (ha : numL (L a) = true) (hb : numL (L b) = true) (hs : (L a).length ≤ 1000000000) (he : (L a).length = (L b).length) (d : Nat) : ∀ t : Nat, t + d = (L a).length → Ev (fun k => graftwoodref02_Cmp.l0 k a b ((d : Int) - 1)) (cmpL ((L a).drop t) ((L b).drop t)) := by
  induction d with
  | zero =>
    intro t ht
    refine ev_step (fun k => by rw [graftwoodref02_Cmp.l0]) ?_
    refine ev_neg (by omega) (ev_now ?_)
    rw [List.drop_eq_nil_of_le (by omega), List.drop_eq_nil_of_le (by omega)]
    exact (cmpL_self []).symm
  | succ d ih =>
    intro t ht
    have hta : t < (L a).length := by omega
    have htb : t < (L b).length := by omega
    obtain ⟨x1, x2⟩ := num_dig ha _ (List.getElem_mem hta)
    obtain ⟨y1, y2⟩ := num_dig hb _ (List.getElem_mem htb)
    have e : ((d + 1 : Nat) : Int) - 1 = (d : Int) := by omega
    rw [e]
    refine ev_step (fun k => by rw [graftwoodref02_Cmp.l0]) ?_
    refine ev_pos (by omega) ?_
    rw [at_in a d t hs (by omega), at_in b d t (by omega) (by omega), w_id (by omega) (by omega)]
    simp only [Option.bind_some]
    have dx : dig ((L a)[t].toNat : Int) = (L a)[t].toNat - 48 := by unfold dig; rw [if_neg (by omega), if_neg (by omega)]
    have dy : dig ((L b)[t].toNat : Int) = (L b)[t].toNat - 48 := by unfold dig; rw [if_neg (by omega), if_neg (by omega)]
    rw [dx, dy, List.drop_eq_getElem_cons hta, List.drop_eq_getElem_cons htb, cmpL_cons_cons]
    refine ev_ite (fun h => ?_) (fun h => ?_)
    · rw [if_pos (UInt8.lt_iff_toNat_lt.2 (by omega))]; exact ev_now rfl
    · rw [if_neg (fun h' => h (by have := UInt8.lt_iff_toNat_lt.1 h'; omega))]
      refine ev_ite (fun h2 => ?_) (fun h2 => ?_)
      · rw [if_pos (UInt8.lt_iff_toNat_lt.2 (by omega))]; exact ev_now rfl
      · rw [if_neg (fun h' => h2 (by have := UInt8.lt_iff_toNat_lt.1 h'; omega))]
        exact ih (t + 1) (by omega)
theorem mx_eq (a b : Nat) : mx (a : Int) (b : Int) = ((max a b : Nat) : Int) := by unfold mx; split <;> omega
theorem num_head : ∀ {l : List UInt8} (h : numL l = true) (h2 : 2 ≤ l.length), 1 ≤ dig ((l[0]'(by omega)).toNat : Int)
  | [], _, h2 => absurd h2 (by decide)
  | [_], _, h2 => absurd h2 (by simp)
  | b :: c :: l, h, _ => by
    obtain ⟨x1, x2⟩ := num_dig h b (by simp)
    unfold numL at h
    simp only [Bool.and_eq_true] at h
    have hz := h.2
    simp only [zeroOk, List.isEmpty_cons, Bool.or_false, Bool.not_eq_true', beq_eq_false_iff_ne] at hz
    have : b.toNat ≠ 48 := fun e => hz (UInt8.toNat_inj.1 (by rw [e]; rfl))
    show 1 ≤ dig (b.toNat : Int)
    unfold dig
    rw [if_neg (by omega), if_neg (by omega)]
    omega
theorem num_ne {l : List UInt8} (h : numL l = true) : 1 ≤ l.length := by
  unfold numL at h
  simp only [Bool.and_eq_true, Bool.not_eq_true'] at h
  cases l with
  | nil => simp at h
  | cons b l => simp
theorem refNumCmp_ev (a b : ByteArray) (ha : numL (L a) = true) (hb : numL (L b) = true) (hs : a.size ≤ 1000000000) (ht : b.size ≤ 1000000000) : Ev (fun k => graftwoodref02_Cmp.f k a b) (numC (L a) (L b)) := by
  have sa := L_size a
  have sb := L_size b
  have na := num_ne ha
  have nb := num_ne hb
  unfold graftwoodref02_Cmp.f
  rw [← sa, ← sb, mx_eq, w_id (by omega) (by omega)]
  unfold numC
  have z := cmpI_zero ((L a).length : Int) (L b).length
  rcases Nat.lt_trichotomy (L a).length (L b).length with h | h | h
  · rw [if_neg (fun e => by have := z.1 e; omega)]
    have e : ((max (L a).length (L b).length : Nat) : Int) - 1 = (((L b).length - 1 : Nat) : Int) := by omega
    rw [e]
    refine ev_step (fun k => by rw [graftwoodref02_Cmp.l0]) ?_
    refine ev_pos (by omega) ?_
    rw [at_out a _ (by omega), at_in b ((L b).length - 1) 0 (by omega) (by omega)]
    simp only [Option.bind_some]
    have hd := num_head hb (by omega)
    refine ev_pos (by omega) (ev_now ?_)
    unfold cmpI
    rw [if_pos (by omega)]
  · rw [if_pos (z.2 (by omega))]
    have e : ((max (L a).length (L b).length : Nat) : Int) - 1 = ((L a).length : Int) - 1 := by omega
    rw [e]
    have hh := refNumCmp_loop a b ha hb (by omega) h (L a).length 0 (by omega)
    rw [List.drop_zero, List.drop_zero] at hh
    exact hh
  · rw [if_neg (fun e => by have := z.1 e; omega)]
    have e : ((max (L a).length (L b).length : Nat) : Int) - 1 = (((L a).length - 1 : Nat) : Int) := by omega
    rw [e]
    refine ev_step (fun k => by rw [graftwoodref02_Cmp.l0]) ?_
    refine ev_pos (by omega) ?_
    rw [at_out b _ (by omega), at_in a ((L a).length - 1) 0 (by omega) (by omega)]
    simp only [Option.bind_some]
    have hd := num_head ha (by omega)
    refine ev_neg (by omega) (ev_pos (by omega) (ev_now ?_))
    unfold cmpI
    rw [if_neg (by omega), if_pos (by omega)]
/-! ### the reference's words -/
def wordB (b : UInt8) : Bool := clsOf b.toNat == 1 || clsOf b.toNat == 2 || b == 45
theorem wordB_eq (b : UInt8) : wordB b = (!([46, 95, 126] : List UInt8).contains b && ([1, 2, 3] : List Int).contains (clsOf b.toNat)) := by
  have h : ∀ n : Fin 256, wordB (UInt8.ofNat n.val) = (!([46, 95, 126] : List UInt8).contains (UInt8.ofNat n.val) && ([1, 2, 3] : List Int).contains (clsOf (UInt8.ofNat n.val).toNat)) := by decide +kernel
  have := h ⟨b.toNat, b.toNat_lt⟩
  simpa using this
theorem words_all (l : List UInt8) : l.all wordB = (!badL l && allOf [1, 2, 3] l) := by
  induction l with
  | nil => rfl
  | cons b l ih =>
    unfold badL allOf at ih ⊢
    rw [List.all_cons, List.any_cons, List.all_cons, ih, wordB_eq]
    cases ([46, 95, 126] : List UInt8).contains b <;> cases ([1, 2, 3] : List Int).contains (clsOf b.toNat) <;> cases (l.any fun b => ([46, 95, 126] : List UInt8).contains b) <;> simp
theorem refWord_loop (s : ByteArray) (hs : (L s).length ≤ 1000000000) (d : Nat) : ∀ (i : Nat) (g : Bool), i + d = (L s).length → Ev (fun k => graftwoodref03_Word.l0 k s g i) (((L s).drop i).all wordB && (!(L s).isEmpty && (if g && allOf [1] ((L s).drop i) then numL (L s) else true))) := by
  have sz := L_size s
  induction d with
  | zero =>
    intro i g hi
    refine ev_step (fun k => by rw [graftwoodref03_Word.l0]) ?_
    refine ev_neg (by omega) ?_
    rw [List.drop_eq_nil_of_le (by omega)]
    have hall : allOf [1] ([] : List UInt8) = true := rfl
    rw [hall, List.all_nil, Bool.true_and, Bool.and_true]
    refine ev_ite (fun h => ?_) (fun h => ?_)
    · have hne : (L s).isEmpty = false := by
        cases hL : L s with
        | nil => rw [hL] at sz; simp only [List.length_nil] at sz; omega
        | cons => rfl
      rw [hne]
      cases g with
      | true => exact ev_pos rfl (ev_last (refNumMay_ev s (by omega)))
      | false => exact ev_neg (by decide) (ev_now rfl)
    · have hne : (L s).isEmpty = true := by
        cases hL : L s with
        | nil => rfl
        | cons b l => rw [hL] at sz; simp only [List.length_cons] at sz; omega
      rw [hne]
      exact ev_now rfl
  | succ d ih =>
    intro i g hi
    have hil : i < (L s).length := by omega
    have hb := (L s)[i].toNat_lt
    refine ev_step (fun k => by rw [graftwoodref03_Word.l0]) ?_
    refine ev_pos (by omega) (ev_pos (by omega) ?_)
    rw [bt_L s i hil, w_succ i (by omega), List.drop_eq_getElem_cons hil, List.all_cons]
    refine ev_bind (refClass_ev _ (by omega) (by omega)) ?_
    have h45 : (((L s)[i].toNat : Int) = 45) ↔ (L s)[i] = 45 := ⟨fun e => UInt8.toNat_inj.1 (by have : (45 : UInt8).toNat = 45 := rfl; omega), fun e => by rw [e]; rfl⟩
    have hc : allOf [1] ((L s)[i] :: (L s).drop (i + 1)) = ((clsOf (L s)[i].toNat == 1) && allOf [1] ((L s).drop (i + 1))) := by
      unfold allOf
      rw [List.all_cons]
      congr 1
      rw [Bool.eq_iff_iff, List.contains_iff_mem, List.mem_singleton, beq_iff_eq]
    rw [hc]
    unfold wordB
    by_cases h1 : clsOf (L s)[i].toNat = 1
    · have e1 : (clsOf (L s)[i].toNat == 1) = true := beq_iff_eq.2 h1
      rw [e1]
      simp only [Bool.true_or, Bool.true_and]
      exact ev_pos h1 (ih (i + 1) g (by omega))
    · have e1 : (clsOf (L s)[i].toNat == 1) = false := beq_eq_false_iff_ne.2 h1
      rw [e1]
      refine ev_neg h1 ?_
      have hf := ih (i + 1) false (by omega)
      simp only [Bool.false_and, Bool.and_false, Bool.false_or, Bool.false_eq_true, if_false] at hf ⊢
      by_cases h2 : clsOf (L s)[i].toNat = 2
      · have e2 : (clsOf (L s)[i].toNat == 2) = true := beq_iff_eq.2 h2
        rw [e2, Bool.true_or, Bool.true_and]
        exact ev_pos h2 hf
      · have e2 : (clsOf (L s)[i].toNat == 2) = false := beq_eq_false_iff_ne.2 h2
        rw [e2, Bool.false_or]
        refine ev_neg h2 ?_
        by_cases h3 : (L s)[i] = 45
        · have e3 : ((L s)[i] == 45) = true := beq_iff_eq.2 h3
          rw [e3, Bool.true_and]
          exact ev_pos (h45.2 h3) hf
        · have e3 : ((L s)[i] == 45) = false := beq_eq_false_iff_ne.2 h3
          rw [e3, Bool.false_and]
          exact ev_neg (fun e => h3 (h45.1 e)) (ev_now rfl)
theorem refWord_ev (s : ByteArray) (hs : s.size ≤ 1000000000) : Ev (fun k => graftwoodref03_Word.f k s) (wordL (L s)) := by
  unfold graftwoodref03_Word.f
  have h := refWord_loop s (by rw [L_size]; exact hs) (L s).length 0 true (by omega)
  rw [List.drop_zero, words_all] at h
  have e : (!badL (L s) && allOf [1, 2, 3] (L s) && (!(L s).isEmpty && (if true && allOf [1] (L s) then numL (L s) else true))) = wordL (L s) := by
    unfold wordL
    have hn := @num_all (L s)
    cases h1 : allOf [1] (L s) <;> cases h2 : numL (L s) <;> cases badL (L s) <;> cases allOf [1, 2, 3] (L s) <;> cases (L s).isEmpty <;> first | rfl | (rw [h2] at hn; have := hn rfl; rw [h1] at this; cases this)
  rw [e] at h
  exact h
/-! ### the reference's Split -/
def fd : List UInt8 → Nat
  | [] => 0
  | b :: l => if b = 45 then 0 else fd l + 1
theorem fd_cut : ∀ l : List UInt8, fd l ≤ l.length ∧ cutL l = (l.take (fd l), l.drop (fd l + 1), decide (fd l < l.length))
  | [] => ⟨Nat.le_refl _, rfl⟩
  | b :: l => by
    obtain ⟨h1, h2⟩ := fd_cut l
    rw [fd, cutL]
    by_cases h : b = 45
    · rw [if_pos h, if_pos h]; exact ⟨by simp, by simp⟩
    · rw [if_neg h, if_neg h, h2]
      refine ⟨by simp only [List.length_cons]; omega, ?_⟩
      simp only [List.take_succ_cons, List.drop_succ_cons, List.length_cons, Nat.add_lt_add_iff_right]
def verB (o : Option Ver) : ByteArray × ByteArray × ByteArray × List ByteArray × Bool := match o with
  | some v => (mkB v.a, mkB v.b, mkB v.c, v.p.map mkB, true)
  | none => (⟨#[]⟩, ⟨#[]⟩, ⟨#[]⟩, [], false)
theorem refSplit_words (a b c : ByteArray) (p : List ByteArray) (hp : p.length ≤ 1000000001) (hm : ∀ s, s ∈ p → s.size ≤ 1000000000) (d : Nat) : ∀ i : Nat, i + d = p.length → Ev (fun k => graftwoodref03_Split.l1 k i a b c p) (if (p.drop i).all fun s => wordL (L s) then (a, b, c, p, true) else (⟨#[]⟩, ⟨#[]⟩, ⟨#[]⟩, [], false)) := by
  induction d with
  | zero =>
    intro i hi
    refine ev_step (fun k => by rw [graftwoodref03_Split.l1]) ?_
    refine ev_neg (by omega) (ev_now ?_)
    rw [List.drop_eq_nil_of_le (by omega)]; rfl
  | succ d ih =>
    intro i hi
    have hil : i < p.length := by omega
    refine ev_step (fun k => by rw [graftwoodref03_Split.l1]) ?_
    refine ev_pos (by omega) (ev_pos (by omega) ?_)
    rw [rdOf_at _ p i hil, w_succ i (by omega), List.drop_eq_getElem_cons hil, List.all_cons]
    refine ev_bind (refWord_ev _ (hm _ (List.getElem_mem _))) ?_
    refine ev_ite (fun h => ?_) (fun h => ?_)
    · rw [h, Bool.true_and]; exact ih (i + 1) (by omega)
    · have h' : wordL (L p[i]) = false := by simpa using h
      rw [h', Bool.false_and]; exact ev_now rfl
theorem refSplit_scan (s : ByteArray) (hs : (L s).length ≤ 1000000) (a b c : ByteArray) (r : ByteArray × ByteArray × ByteArray × List ByteArray × Bool) (hK : Ev (fun k => graftwoodref03_Split.l0 k s (fd (L s)) (-1) a b c) r) (d : Nat) : ∀ i : Nat, i = d → i ≤ (L s).length →
    Ev (fun k => graftwoodref03_Split.l0 k s ((i + fd ((L s).drop i) : Nat) : Int) ((i : Int) - 1) a b c) r := by
  have sz := L_size s
  induction d with
  | zero =>
    intro i hi _
    subst hi
    rw [List.drop_zero, Nat.zero_add]
    exact hK
  | succ d ih =>
    intro i hi hil
    have hlt : d < (L s).length := by omega
    have e : (i : Int) - 1 = (d : Int) := by omega
    rw [e]
    refine ev_step (fun k => by rw [graftwoodref03_Split.l0]) ?_
    refine ev_pos (by omega) (ev_pos (by omega) (ev_pos (by omega) ?_))
    rw [bt_L s d hlt, w_id (by omega) (by omega)]
    have h45 : (((L s)[d].toNat : Int) = 45) ↔ (L s)[d] = 45 := ⟨fun e => UInt8.toNat_inj.1 (by have : (45 : UInt8).toNat = 45 := rfl; omega), fun e => by rw [e]; rfl⟩
    have hn := ih d rfl (by omega)
    rw [List.drop_eq_getElem_cons hlt, fd] at hn
    refine ev_ite (fun h => ?_) (fun h => ?_)
    · rw [if_pos (h45.1 h), Nat.add_zero] at hn
      exact hn
    · rw [if_neg (fun x => h (h45.2 x))] at hn
      have e2 : d + (fd ((L s).drop (d + 1)) + 1) = i + fd ((L s).drop i) := by rw [hi]; omega
      rw [e2] at hn
      exact hn
theorem refSplit_ev (s : ByteArray) (hs : s.size ≤ 1000000) : Ev (fun k => graftwoodref03_Split.f k s) (verB (splitL (L s))) := by
  have sz := L_size s
  have hbad : Ev (fun k => graftwoodref03_Split.j0 k s true (⟨#[]⟩ : ByteArray) (⟨#[]⟩ : ByteArray) (⟨#[]⟩ : ByteArray)) (verB none) := by
    refine ev_step (fun k => by rw [graftwoodref03_Split.j0]) ?_
    exact ev_pos rfl (ev_now rfl)
  unfold graftwoodref03_Split.f
  cases hL : L s with
  | nil =>
    rw [hL] at sz
    simp only [List.length_nil] at sz
    exact ev_pos (by omega) hbad
  | cons v t =>
    have sz2 := sz
    rw [hL] at sz2
    simp only [List.length_cons] at sz2
    refine ev_neg (by omega) (ev_pos (by omega) ?_)
    have h0 : bt s 0 = (v.toNat : Int) := by
      have := bt_L s 0 (by rw [hL]; simp)
      simpa [hL] using this
    have h118 : ((v.toNat : Int) = 118) ↔ v = 118 := ⟨fun e => UInt8.toNat_inj.1 (by have : (118 : UInt8).toNat = 118 := rfl; omega), fun e => by rw [e]; rfl⟩
    rw [h0, splitL_cons]
    by_cases hv : v = 118
    case neg =>
      have : ((v.toNat : Int) != 118) = true := bne_iff_ne.2 (fun e => hv (h118.1 e))
      rw [this, if_neg hv]
      exact hbad
    have hv2 : ((v.toNat : Int) != 118) = false := by rw [h118.2 hv]; rfl
    rw [hv2, if_pos hv]
    refine ev_step (fun k => by rw [graftwoodref03_Split.j0]) ?_
    refine ev_neg (by decide) ?_
    rw [w_id (by omega) (by omega)]
    obtain ⟨hf1, hf2⟩ := fd_cut t
    have hfd : fd (L s) = fd t + 1 := by rw [hL, fd, if_neg (by rw [hv]; decide)]
    have hscan := refSplit_scan s (by omega) (⟨#[]⟩ : ByteArray) (⟨#[]⟩ : ByteArray) (⟨#[]⟩ : ByteArray) (verB (splitC (cutL t).1 (cutL t).2.1 (cutL t).2.2)) ?_ s.size s.size rfl (by omega)
    · rw [show (L s).drop s.size = [] from List.drop_eq_nil_of_le (by omega)] at hscan
      exact hscan
    -- behind the scan
    rw [hfd]
    refine ev_step (fun k => by rw [graftwoodref03_Split.l0]) ?_
    refine ev_neg (by decide) (ev_pos (by omega) (ev_pos (by omega) ?_))
    have hcore : s.extract 1 ((fd t + 1 : Nat) : Int).toNat = mkB (t.take (fd t)) := by
      refine L_inj ?_
      rw [L_extract, hL, L_mkB, Int.toNat_natCast]; rfl
    rw [hcore, hf2]
    simp only
    refine ev_bind (refParts_ev _ 46 (by decide) (by decide) (by rw [mkB_size, List.length_take]; omega)) ?_
    have h46 : (46 : Int).toNat.toUInt8 = 46 := rfl
    rw [h46, partsB_mk]
    have hple := part_le 46 (t.take (fd t))
    rw [List.length_take] at hple
    have hbad2 : ∀ (x : Int) (y : List ByteArray), Ev (fun k => graftwoodref03_Split.j2 k s x y true (⟨#[]⟩ : ByteArray) (⟨#[]⟩ : ByteArray) (⟨#[]⟩ : ByteArray)) (verB none) := by
      intro x y
      refine ev_step (fun k => by rw [graftwoodref03_Split.j2]) ?_
      exact ev_pos rfl (ev_now rfl)
    unfold splitC coreL
    rcases hpl : partsL 46 (t.take (fd t)) with _ | ⟨a, _ | ⟨b, _ | ⟨c, _ | ⟨d, r⟩⟩⟩⟩
    · exact ev_neg (by decide) (hbad2 _ _)
    · exact ev_neg (by simp) (hbad2 _ _)
    · exact ev_neg (by simp) (hbad2 _ _)
    · rw [hpl] at hple
      have la := hple a (by simp)
      have lb := hple b (by simp)
      have lc := hple c (by simp)
      refine ev_pos rfl (ev_pos (by simp) ?_)
      have r0 : rdOf ByteArray.empty (List.map mkB [a, b, c]) 0 = mkB a := rfl
      have r1 : rdOf ByteArray.empty (List.map mkB [a, b, c]) 1 = mkB b := rfl
      have r2 : rdOf ByteArray.empty (List.map mkB [a, b, c]) 2 = mkB c := rfl
      have ea := refNumMay_ev (mkB a) (by rw [mkB_size]; omega)
      have eb := refNumMay_ev (mkB b) (by rw [mkB_size]; omega)
      have ec := refNumMay_ev (mkB c) (by rw [mkB_size]; omega)
      rw [L_mkB] at ea eb ec
      rw [r0, r1, r2]
      simp only
      obtain ⟨na, hna⟩ : ∃ x, numL a = x := ⟨_, rfl⟩
      obtain ⟨nb, hnb⟩ : ∃ x, numL b = x := ⟨_, rfl⟩
      obtain ⟨nc, hnc⟩ : ∃ x, numL c = x := ⟨_, rfl⟩
      rw [hna] at ea
      rw [hnb] at eb
      rw [hnc] at ec
      simp only [hna, hnb, hnc]
      refine ev_bind ea ?_
      cases na with
      | false => exact ev_neg (by decide) (hbad2 _ _)
      | true =>
        refine ev_pos rfl (ev_pos (by simp) (ev_bind eb ?_))
        cases nb with
        | false => exact ev_neg (by decide) (hbad2 _ _)
        | true =>
          refine ev_pos rfl (ev_pos (by simp) (ev_bind ec ?_))
          cases nc with
          | false => exact hbad2 _ _
          | true =>
            refine ev_step (fun k => by rw [graftwoodref03_Split.j2]) ?_
            refine ev_neg (by decide) (ev_pos (by simp) (ev_pos (by simp) (ev_pos (by simp) ?_)))
            rw [r0, r1, r2]
            refine ev_ite (fun h => ?_) (fun h => ?_)
            · have hd : decide (fd t < t.length) = false := decide_eq_false (by omega)
              rw [hd]
              exact ev_now rfl
            · have hd : decide (fd t < t.length) = true := decide_eq_true (by omega)
              rw [hd, w_id (by omega) (by omega)]
              refine ev_pos (by omega) (ev_pos (by omega) ?_)
              have hpre : s.extract (((fd t + 1 : Nat) : Int) + 1).toNat s.size = mkB (t.drop (fd t + 1)) := by
                refine L_inj ?_
                have e : (((fd t + 1 : Nat) : Int) + 1).toNat = fd t + 1 + 1 := by omega
                rw [L_extract, hL, L_mkB, e, List.drop_succ_cons]
                exact List.take_of_length_le (by rw [List.length_drop]; omega)
              rw [hpre]
              refine ev_bind (refParts_ev _ 46 (by decide) (by decide) (by rw [mkB_size, List.length_drop]; omega)) ?_
              rw [h46, partsB_mk]
              have hpl2 := (partsL_length 46 (t.drop (fd t + 1))).1
              have hp2 := part_le 46 (t.drop (fd t + 1))
              rw [List.length_drop] at hpl2 hp2
              have hh := refSplit_words (mkB a) (mkB b) (mkB c) ((partsL 46 (t.drop (fd t + 1))).map mkB) (by rw [List.length_map]; omega) (fun x hx => by
                obtain ⟨y, hy, rfl⟩ := List.mem_map.1 hx
                have := hp2 y hy
                rw [mkB_size]; omega) ((partsL 46 (t.drop (fd t + 1))).map mkB).length 0 (by omega)
              have he : (((partsL 46 (t.drop (fd t + 1))).map mkB).drop 0).all (fun s => wordL (L s)) = (partsL 46 (t.drop (fd t + 1))).all wordL := by
                rw [List.drop_zero, List.all_map]; rfl
              rw [he] at hh
              simp only [Bool.and_self, if_true]
              revert hh
              cases (partsL 46 (t.drop (fd t + 1))).all wordL <;> exact fun h => h
    · exact ev_neg (by simp; omega) (hbad2 _ _)
/-! ### the reference's Cmp -/
theorem refWords_ev (a b : ByteArray) (ha : a.size ≤ 1000000000) (hb : b.size ≤ 1000000000) : Ev (fun k => graftwoodref03_words.f k a b) (wordsL (L a) (L b)) := by
  unfold graftwoodref03_words.f
  refine ev_bind (refNumMay_ev a ha) (ev_bind (refNumMay_ev b hb) ?_)
  unfold wordsL
  cases h1 : numL (L a) with
  | false =>
    refine ev_neg (by decide) ?_
    refine ev_step (fun k => by rw [graftwoodref03_words.j0]) ?_
    refine ev_neg (by decide) (ev_neg (by decide) ?_)
    cases h2 : numL (L b) with
    | false => exact ev_neg (by decide) (ev_last (refCmp_ev a b ha))
    | true => exact ev_pos rfl (ev_now rfl)
  | true =>
    refine ev_pos rfl ?_
    refine ev_step (fun k => by rw [graftwoodref03_words.j0]) ?_
    cases h2 : numL (L b) with
    | false => exact ev_neg (by decide) (ev_pos rfl (ev_now rfl))
    | true => exact ev_pos rfl (ev_last (refNumCmp_ev a b h1 h2 ha hb))
theorem refVerCmp_loop (x y : List ByteArray) (a b c a' b' c' : ByteArray) (hx : x.length ≤ 1000000001) (hy : y.length ≤ 1000000001) (hmx : ∀ s, s ∈ x → s.size ≤ 1000000000) (hmy : ∀ s, s ∈ y → s.size ≤ 1000000000) (d : Nat) : ∀ i : Nat, i + d = min x.length y.length →
    Ev (fun k => graftwoodref03_Cmp.l0 k x.length y.length i a b c x a' b' c' y) (listC wordsL ((x.map L).drop i) ((y.map L).drop i)) := by
  have hxl : (x.map L).length = x.length := List.length_map _
  have hyl : (y.map L).length = y.length := List.length_map _
  induction d with
  | zero =>
    intro i hi
    have hj : Ev (fun k => graftwoodref03_Cmp.j2 k x.length y.length i false a b c x a' b' c' y) (listC wordsL ((x.map L).drop i) ((y.map L).drop i)) := by
      refine ev_step (fun k => by rw [graftwoodref03_Cmp.j2]) ?_
      refine ev_neg (by decide) ?_
      rcases Nat.lt_trichotomy x.length y.length with h | h | h
      · rw [show (x.map L).drop i = [] from List.drop_eq_nil_of_le (by omega), List.drop_eq_getElem_cons (by omega)]
        exact ev_pos (by omega) (ev_now rfl)
      · rw [show (x.map L).drop i = [] from List.drop_eq_nil_of_le (by omega), show (y.map L).drop i = [] from List.drop_eq_nil_of_le (by omega)]
        exact ev_neg (by omega) (ev_neg (by omega) (ev_now rfl))
      · rw [show (y.map L).drop i = [] from List.drop_eq_nil_of_le (by omega), List.drop_eq_getElem_cons (by omega)]
        exact ev_neg (by omega) (ev_pos (by omega) (ev_now rfl))
    refine ev_step (fun k => by rw [graftwoodref03_Cmp.l0]) ?_
    refine ev_ite (fun h => ?_) (fun _ => hj)
    rw [decide_eq_false (by omega)]
    exact hj
  | succ d ih =>
    intro i hi
    have hix : i < x.length := by omega
    have hiy : i < y.length := by omega
    refine ev_step (fun k => by rw [graftwoodref03_Cmp.l0]) ?_
    refine ev_pos (by omega) ?_
    rw [decide_eq_true (show (i : Int) < y.length by omega)]
    refine ev_step (fun k => by rw [graftwoodref03_Cmp.j2]) ?_
    refine ev_pos rfl (ev_pos (by omega) (ev_pos (by omega) (ev_pos (by omega) ?_)))
    rw [rdOf_at _ x i hix, rdOf_at _ y i hiy, w_succ i (by omega), List.drop_eq_getElem_cons (l := x.map L) (by omega), List.drop_eq_getElem_cons (l := y.map L) (by omega), List.getElem_map, List.getElem_map, listC]
    refine ev_bind (refWords_ev _ _ (hmx _ (List.getElem_mem _)) (hmy _ (List.getElem_mem _))) ?_
    refine ev_ite (fun h => ?_) (fun h => ?_)
    · rw [if_pos h]; exact ih (i + 1) (by omega)
    · rw [if_neg h]; exact ev_now rfl
theorem refVerCmp_ev (s t : ByteArray) (hs : s.size ≤ 1000000) (ht : t.size ≤ 1000000) (v w : Ver) (hv : splitL (L s) = some v) (hw : splitL (L t) = some w) : Ev (fun k => graftwoodref03_Cmp.f k s t) (verC v w) := by
  have sv := splitL_sizes hv
  have sw := splitL_sizes hw
  rw [L_size] at sv sw
  obtain ⟨_, -, -, nv1, nv2, nv3, -, -⟩ := splitL_some hv
  obtain ⟨_, -, -, nw1, nw2, nw3, -, -⟩ := splitL_some hw
  have e1 := refSplit_ev s hs
  have e2 := refSplit_ev t ht
  rw [hv] at e1
  rw [hw] at e2
  have g1 := refNumCmp_ev (mkB v.a) (mkB w.a) nv1 nw1 (by rw [mkB_size]; omega) (by rw [mkB_size]; omega)
  have g2 := refNumCmp_ev (mkB v.b) (mkB w.b) nv2 nw2 (by rw [mkB_size]; omega) (by rw [mkB_size]; omega)
  have g3 := refNumCmp_ev (mkB v.c) (mkB w.c) nv3 nw3 (by rw [mkB_size]; omega) (by rw [mkB_size]; omega)
  rw [L_mkB, L_mkB] at g1 g2 g3
  unfold graftwoodref03_Cmp.f
  rw [verC_eq]
  refine ev_bind e1 (ev_bind e2 ?_)
  simp only [verB]
  refine ev_bind g1 ?_
  refine ev_ite (fun h1 => ?_) (fun h1 => by rw [if_neg h1]; exact ev_now rfl)
  rw [if_pos h1]
  refine ev_bind g2 ?_
  refine ev_ite (fun h2 => ?_) (fun h2 => by rw [if_neg h2]; exact ev_now rfl)
  rw [if_pos h2]
  refine ev_bind g3 ?_
  refine ev_ite (fun h3 => ?_) (fun h3 => by rw [if_neg h3]; exact ev_now rfl)
  rw [if_pos h3]
  have hj : ∀ bb : Bool, bb = (v.p.isEmpty && w.p.isEmpty) → Ev (fun k => graftwoodref03_Cmp.j0 k (v.p.map mkB).length (w.p.map mkB).length bb (mkB v.a) (mkB v.b) (mkB v.c) (v.p.map mkB) (mkB w.a) (mkB w.b) (mkB w.c) (w.p.map mkB)) (preV v.p w.p) := by
    intro bb hbb
    refine ev_step (fun k => by rw [graftwoodref03_Cmp.j0]) ?_
    rw [List.length_map, List.length_map]
    subst hbb
    cases hvp : v.p with
    | nil =>
      cases hwp : w.p with
      | nil => exact ev_pos rfl (ev_now rfl)
      | cons y q => exact ev_neg (by simp) (ev_pos rfl (ev_now (by unfold preV cmpI; rw [if_pos (by simp), if_neg (by simp only [List.length_cons, List.length_nil]; omega), if_pos (by simp only [List.length_cons, List.length_nil]; omega)])))
    | cons x p =>
      cases hwp : w.p with
      | nil => exact ev_neg (by simp) (ev_neg (by simp only [List.length_cons]; omega) (ev_pos rfl (ev_now (by unfold preV cmpI; rw [if_pos (by simp), if_pos (by simp only [List.length_cons, List.length_nil]; omega)]))))
      | cons y q =>
        refine ev_neg (by simp) (ev_neg (by simp only [List.length_cons]; omega) (ev_neg (by simp only [List.length_cons]; omega) ?_))
        have h := refVerCmp_loop (v.p.map mkB) (w.p.map mkB) (mkB v.a) (mkB v.b) (mkB v.c) (mkB w.a) (mkB w.b) (mkB w.c) (by rw [List.length_map]; omega) (by rw [List.length_map]; omega) (fun x hx => by
          obtain ⟨y, hy, rfl⟩ := List.mem_map.1 hx
          have := sv.2.2.2.2 y hy
          rw [mkB_size]; omega) (fun x hx => by
          obtain ⟨y, hy, rfl⟩ := List.mem_map.1 hx
          have := sw.2.2.2.2 y hy
          rw [mkB_size]; omega) (min (v.p.map mkB).length (w.p.map mkB).length) 0 (by omega)
        rw [map_L_mkB, map_L_mkB, List.drop_zero, List.drop_zero, List.length_map, List.length_map, hvp, hwp] at h
        exact h
  refine ev_ite (fun h0 => hj _ ?_) (fun h0 => hj _ ?_)
  · rw [List.length_map] at h0 ⊢
    have : v.p = [] := List.eq_nil_of_length_eq_zero (by omega)
    rw [this]
    cases w.p with
    | nil => rfl
    | cons x l => simp; omega
  · rw [List.length_map] at h0
    have : v.p.isEmpty = false := by
      cases hv : v.p with
      | nil => rw [hv] at h0; exact absurd rfl h0
      | cons => rfl
    rw [this]; rfl
end Go.Proofs.YtjneghnknfhboaaDoor.Q

/-
  What the printed functions of layer 4 (path) and its reference come to.
-/
namespace Go.Proofs.YtjneghnknfhboaaDoor.Q
open Go.RowKit Go.Proofs.YtjneghnknfhboaaDoor.P Go.Proofs.YtjneghnknfhboaaDoorB Go.Proofs.YtjneghnknfhboaaDoorW.PrintWords Go.Proofs.YtjneghnknfhboaaDoorW.PrintLast Go.Proofs.YtjneghnknfhboaaDoorW.PrintMore
set_option linter.unusedSimpArgs false

/-- Is a text a path? -/
def isPath (l : List UInt8) : Bool := (partsL 47 l).all elemL
def withinL (p q : List UInt8) : Bool := isPath p && isPath q && (p ++ [47]).isPrefixOf (q ++ [47])

theorem elem_eq (s : ByteArray) (hs : s.size ≤ 1000000000) : path_element.f s = some (elemL (L s)) := by
  unfold path_element.f
  rw [if_pos hs]
  rfl
theorem Elements_loop (x l : List ByteArray) (hl : l.length ≤ 1000000001) (hm : ∀ s, s ∈ l → s.size ≤ 1000000000) (d : Nat) : ∀ i : Nat, i + d = l.length →
    Ev (fun k => path_Elements.l0 k x l l.length i) (if (l.drop i).all fun s => elemL (L s) then (x, 0) else ([], 1)) := by
  induction d with
  | zero =>
    intro i hi
    refine ev_step (fun k => by rw [path_Elements.l0]) ?_
    refine ev_neg (by omega) (ev_now ?_)
    rw [List.drop_eq_nil_of_le (by omega)]; rfl
  | succ d ih =>
    intro i hi
    have hil : i < l.length := by omega
    refine ev_step (fun k => by rw [path_Elements.l0]) ?_
    refine ev_pos (by omega) (ev_pos (by omega) (ev_pos (by omega) ?_))
    rw [rdOf_at _ l i hil, elem_eq _ (hm _ (List.getElem_mem _)), w_succ i (by omega), List.drop_eq_getElem_cons hil, List.all_cons]
    refine ev_some ?_
    refine ev_ite (fun h => ?_) (fun h => ?_)
    · rw [h, Bool.true_and]
      exact ih (i + 1) (by omega)
    · have h' : elemL (L l[i]) = false := by simpa using h
      rw [h', Bool.false_and]
      exact ev_now rfl
theorem Elements_ev (s : ByteArray) (hs : s.size ≤ 1000000000) : Ev (fun k => path_Elements.f k s) (if isPath (L s) then (partsB 47 s, 0) else ([], 1)) := by
  unfold path_Elements.f
  have hl := (partsL_length 47 (L s)).1
  have hz := L_size s
  rw [Parts_eq s 47 (by decide) (by decide) hs]
  refine ev_some ?_
  have h := Elements_loop (partsB 47 s) (partsB 47 s) (by rw [partsB_length]; omega) (fun p hp => by
    simp only [partsB, List.mem_map] at hp
    obtain ⟨q, hq, rfl⟩ := hp
    have := part_le 47 (L s) q hq
    rw [← L_size, L_mk]; omega) (partsB 47 s).length 0 (by omega)
  have he : ((partsB 47 s).drop 0).all (fun s => elemL (L s)) = isPath (L s) := by
    unfold isPath partsB
    rw [List.drop_zero, List.all_map]
    rfl
  rw [he] at h
  exact h
theorem May_ev (s : ByteArray) (hs : s.size ≤ 1000000000) : Ev (fun k => path_May.f k s) (isPath (L s)) := by
  unfold path_May.f
  refine ev_bind (Elements_ev s hs) (ev_now ?_)
  cases isPath (L s) <;> rfl


end Go.Proofs.YtjneghnknfhboaaDoor.Q

/-
  What the printed functions of layers 5 (node) and 10 (intern) come to.
-/
namespace Go.Proofs.YtjneghnknfhboaaDoor.Q
open Go.RowKit Go.Proofs.YtjneghnknfhboaaDoor.P Go.Proofs.YtjneghnknfhboaaDoorB Go.Proofs.YtjneghnknfhboaaDoorW.PrintWords Go.Proofs.YtjneghnknfhboaaDoorW.PrintLast Go.Proofs.YtjneghnknfhboaaDoorW.PrintMore
set_option linter.unusedSimpArgs false
set_option linter.unusedVariables false
abbrev Nd := S34
theorem nd_ext {x y : Nd} (h0 : x.f0 = y.f0) (h1 : x.f1 = y.f1) : x = y := by
  cases x; cases y; cases h0; cases h1; rfl
theorem rdN_at (l : List Nd) (i : Nat) (h : i < l.length) : rd_T34 l (i : Int) = l[i] := by
  simp [rd_T34, List.getD_eq_getElem?_getD, h]
theorem rdI_at (l : List Int) (i : Nat) (h : i < l.length) : rd l (i : Int) = l[i] := by
  simp [rd, List.getD_eq_getElem?_getD, h]

/-! ### nodes -/
def nodeOk (n : Nd) : Bool := isPath (L n.f0) && verOk (L n.f1)
theorem nodeMay_ev (p v : ByteArray) (hp : p.size ≤ 1000000) (hv : v.size ≤ 1000000) : Ev (fun k => node_May.f k p v) (isPath (L p) && verOk (L v)) := by
  unfold node_May.f
  refine ev_bind (May_ev p (by omega)) ?_
  cases isPath (L p) with
  | false => exact ev_neg (by decide) (ev_now rfl)
  | true => exact ev_pos rfl (ev_last (verMay_ev v hv))
def fewN (n : Nd) : Nd := ⟨few n.f0, few n.f1⟩
def fewL (l : List Nd) : List Nd := (l.take 24).map fewN
def smallL (l : List Nd) : Prop := ∀ n, n ∈ l → n.f0.size ≤ 400 ∧ n.f1.size ≤ 400
theorem few_small (l : List Nd) : smallL (fewL l) := by
  intro n hn
  obtain ⟨x, -, rfl⟩ := List.mem_map.1 hn
  exact ⟨few_size _, few_size _⟩
theorem fewL_len (l : List Nd) : (fewL l).length ≤ 24 := by unfold fewL; rw [List.length_map, List.length_take]; omega
theorem few5_loop (l : List Nd) (d : Nat) : ∀ (i : Nat) (p : List Nd), i + d = min l.length 24 → p.length = i → Ev (fun k => graftwoodlaw05_Few.l0 k l p i) (p ++ ((l.take 24).drop i).map fewN) := by
  induction d with
  | zero =>
    intro i p hi hp
    have hd : (l.take 24).drop i = [] := List.drop_eq_nil_of_le (by rw [List.length_take]; omega)
    rw [hd, List.map_nil, List.append_nil]
    refine ev_step (fun k => by rw [graftwoodlaw05_Few.l0]) ?_
    exact ev_ite (fun h => ev_neg (by omega) (ev_now rfl)) (fun _ => ev_now rfl)
  | succ d ih =>
    intro i p hi hp
    have hil : i < l.length := by omega
    refine ev_step (fun k => by rw [graftwoodlaw05_Few.l0]) ?_
    refine ev_pos (by omega) (ev_pos (by omega) (ev_pos (by omega) ?_))
    unfold graftwoodlaw05_One.f
    rw [rdN_at l i hil, Few_eq, Few_eq, w_succ i (by omega)]
    refine ev_some (ev_pos (by omega) ?_)
    have h := ih (i + 1) (p ++ [fewN l[i]]) (by omega) (by simp [hp])
    have hd : (l.take 24).drop i = l[i] :: (l.take 24).drop (i + 1) := by
      rw [List.drop_eq_getElem_cons (by rw [List.length_take]; omega), List.getElem_take]
    rw [hd, List.map_cons]
    rw [List.append_assoc] at h
    exact h
theorem few5_ev (l : List Nd) : Ev (fun k => graftwoodlaw05_Few.f k l) (fewL l) := by
  unfold graftwoodlaw05_Few.f
  exact few5_loop l (min l.length 24) 0 [] (by omega) rfl
/-! ### places -/
theorem ix_some {p v : ByteArray} : ∀ {l : List Nd} {i : Nat}, ixN p v l = some i → ∃ h : i < l.length, l[i] = ⟨p, v⟩
  | [], i, h => by cases h
  | x :: l, i, h => by
    rw [ixN] at h
    by_cases hx : x.f0 = p ∧ x.f1 = v
    · rw [if_pos hx] at h
      obtain rfl := Option.some.inj h
      exact ⟨by simp, nd_ext hx.1 hx.2⟩
    · rw [if_neg hx] at h
      cases hh : ixN p v l with
      | none => rw [hh] at h; cases h
      | some j =>
        rw [hh] at h
        obtain rfl := Option.some.inj h
        obtain ⟨h1, h2⟩ := ix_some hh
        exact ⟨by simp; omega, by simpa using h2⟩
theorem ix_app {p v : ByteArray} (r : List Nd) : ∀ {l : List Nd} {i : Nat}, ixN p v l = some i → ixN p v (l ++ r) = some i
  | [], i, h => by cases h
  | x :: l, i, h => by
    rw [ixN] at h
    rw [List.cons_append, ixN]
    by_cases hx : x.f0 = p ∧ x.f1 = v
    · rw [if_pos hx] at h ⊢; exact h
    · rw [if_neg hx] at h ⊢
      cases hh : ixN p v l with
      | none => rw [hh] at h; cases h
      | some j =>
        rw [hh] at h
        rw [ix_app r hh]; exact h
def ixOf (n : Nd) (l : List Nd) : Option Nat := ixN n.f0 n.f1 l
theorem ix_new (n : Nd) (l : List Nd) (h : ixOf n l = none) : ixOf n (l ++ [n]) = some l.length := by
  obtain ⟨p, v⟩ := n
  exact ixN_snoc_same p v l h
def grow1 (n : Nd) (l : List Nd) : List Nd := match ixOf n l with
  | some _ => l
  | none => l ++ [n]
def placeOf (n : Nd) (l : List Nd) : Nat := match ixOf n l with
  | some i => i
  | none => l.length
def grow : List Nd → List Nd → List Nd
  | [], m => m
  | n :: l, m => grow l (grow1 n m)
def idsOf : List Nd → List Nd → List Int
  | [], _ => []
  | n :: l, m => (placeOf n m : Int) :: idsOf l (grow1 n m)
theorem ids_len : ∀ (l m : List Nd), (idsOf l m).length = l.length
  | [], m => rfl
  | n :: l, m => by rw [idsOf, List.length_cons, ids_len l, List.length_cons]
theorem grow_same : ∀ (l m : List Nd), (∀ n, n ∈ l → (ixOf n m).isSome = true) → grow l m = m
  | [], m, _ => rfl
  | n :: l, m, h => by
    have hn := h n (by simp)
    have e : grow1 n m = m := by
      unfold grow1
      cases hx : ixOf n m with
      | some i => rfl
      | none => rw [hx] at hn; cases hn
    rw [grow, e]
    exact grow_same l m (fun x hx => h x (List.mem_cons_of_mem _ hx))
theorem grow_mem : ∀ (l m : List Nd) (x : Nd), x ∈ grow l m → x ∈ m ∨ x ∈ l
  | [], m, x, h => .inl h
  | n :: l, m, x, h => by
    rcases grow_mem l (grow1 n m) x h with h | h
    · unfold grow1 at h
      cases hx : ixOf n m with
      | some i => rw [hx] at h; exact .inl h
      | none =>
        rw [hx] at h
        rcases List.mem_append.1 h with h | h
        · exact .inl h
        · rw [List.mem_singleton.1 h]; exact .inr (by simp)
    · exact .inr (List.mem_cons_of_mem _ h)
theorem grow_len : ∀ (l m : List Nd), (grow l m).length ≤ m.length + l.length
  | [], m => by simp [grow]
  | n :: l, m => by
    have h := grow_len l (grow1 n m)
    have h1 : (grow1 n m).length ≤ m.length + 1 := by
      unfold grow1
      cases ixOf n m <;> simp
    rw [grow, List.length_cons]
    omega
theorem grow_small {l m : List Nd} (hl : smallL l) (hm : smallL m) : smallL (grow l m) := fun x hx => by
  rcases grow_mem l m x hx with h | h
  · exact hm x h
  · exact hl x h

/-! ### which names may be -/
def tabL : List Nd → List Nd → Bool
  | [], _ => true
  | n :: l, seen => !(ixOf n seen).isSome && nodeOk n && tabL l (seen ++ [n])
theorem small_tail {n : Nd} {l : List Nd} (h : smallL (n :: l)) : smallL l := fun x hx => h x (List.mem_cons_of_mem _ hx)
theorem tabGo_ev : ∀ (l seen : List Nd), smallL l → Ev (fun k => tabGo k l seen) (tabL l seen)
  | [], seen, _ => by simp only [tabGo]; exact ev_now rfl
  | n :: l, seen, hS => by
    obtain ⟨h0, h1⟩ := hS n (by simp)
    simp only [tabGo]
    have hok : okN n.f0 n.f1 = true := by unfold okN; rw [decide_eq_true_eq]; omega
    rw [tabL]
    unfold ixOf nodeOk
    refine ev_pos hok (ev_ite (fun h => ?_) (fun h => ?_))
    · rw [h]; exact ev_now rfl
    · have h' : (ixN n.f0 n.f1 seen).isSome = false := by simpa using h
      rw [h', Bool.not_false, Bool.true_and]
      refine ev_bind (nodeMay_ev n.f0 n.f1 (by omega) (by omega)) ?_
      cases isPath (L n.f0) && verOk (L n.f1) with
      | false => exact ev_neg (by decide) (ev_now rfl)
      | true => exact ev_pos rfl (tabGo_ev l (seen ++ [n]) (small_tail hS))
def namesOk (l : List Nd) : Bool := tabL l []
theorem tabF_ev (l : List Nd) (hS : smallL l) (hl : l.length ≤ 1000000000) : Ev (fun k => tabF k l) (namesOk l) := by
  unfold tabF
  exact ev_pos hl (tabGo_ev l [] hS)
theorem tabL_app : ∀ (a b seen : List Nd), tabL (a ++ b) seen = (tabL a seen && tabL b (seen ++ a))
  | [], b, seen => by simp [tabL]
  | n :: a, b, seen => by
    rw [List.cons_append, tabL, tabL, tabL_app a b (seen ++ [n]), List.append_assoc, List.singleton_append]
    simp only [Bool.and_assoc]
theorem tab_ok : ∀ (l seen : List Nd), tabL l seen = true → ∀ n, n ∈ l → nodeOk n = true
  | [], _, _, n, h => absurd h (by simp)
  | x :: l, seen, h, n, hn => by
    rw [tabL] at h
    simp only [Bool.and_eq_true] at h
    rcases List.mem_cons.1 hn with rfl | hn
    · exact h.1.2
    · exact tab_ok l _ h.2 n hn
theorem tab_ix : ∀ (l seen : List Nd), tabL l seen = true → ∀ (i : Nat) (h : i < l.length), ixOf l[i] (seen ++ l) = some (seen.length + i)
  | [], _, _, i, h => absurd h (by simp)
  | x :: l, seen, ht, i, h => by
    rw [tabL] at ht
    simp only [Bool.and_eq_true, Bool.not_eq_true'] at ht
    have hx : ixOf x seen = none := by
      cases hh : ixOf x seen with
      | none => rfl
      | some j => rw [hh] at ht; exact absurd ht.1.1 (by simp)
    have e : seen ++ x :: l = (seen ++ [x]) ++ l := by simp
    rw [e]
    cases i with
    | zero => exact ix_app l (ix_new x seen hx)
    | succ i =>
      have := tab_ix l (seen ++ [x]) ht.2 i (by simpa using h)
      rw [List.length_append] at this
      simp only [List.length_cons, List.length_nil] at this
      rw [show seen.length + (i + 1) = seen.length + (0 + 1) + i by omega]
      exact this
theorem tab_grow : ∀ (l m : List Nd), namesOk m = true → (∀ n, n ∈ l → nodeOk n = true) → namesOk (grow l m) = true
  | [], m, h, _ => h
  | n :: l, m, h, hl => by
    rw [grow]
    refine tab_grow l (grow1 n m) ?_ (fun x hx => hl x (List.mem_cons_of_mem _ hx))
    unfold grow1
    cases hx : ixOf n m with
    | some i => exact h
    | none =>
      show namesOk (m ++ [n]) = true
      unfold namesOk at h ⊢
      rw [tabL_app, h, tabL, List.nil_append, hx, hl n (by simp)]
      rfl
theorem At_ev (l : List Nd) (hS : smallL l) (hl : l.length ≤ 1000000000) (hok : namesOk l = true) (ids : List Int) (hi : ids.length ≤ 1000000000) (r : List Nd × Int) (hr : atGo l ids [] = some r) : Ev (fun k => intern_At.f k l ids) r := by
  have h := tabF_ev l hS hl
  rw [hok] at h
  unfold intern_At.f
  exact ev_bind h (ev_pos rfl (ev_pos hi (ev_const hr)))
theorem atGo_one (l : List Nd) (i : Nat) (h : i < l.length) : atGo l [(i : Int)] [] = some ([l[i]], 0) := by
  rw [atGo, if_pos ⟨by omega, by omega⟩, rdN_at l i h]
  rfl
theorem allGo_ev (m : List Nd) : ∀ (l names : List Nd) (out : List Int), smallL l → Ev (fun k => allGo k m l names out) (if (l.all nodeOk) = true then (out ++ idsOf l names, grow l names, 0) else ([], m, 1))
  | [], names, out, _ => by simp only [allGo, idsOf, grow, List.append_nil, List.all_nil, if_true]; exact ev_now rfl
  | n :: l, names, out, hS => by
    obtain ⟨h0, h1⟩ := hS n (by simp)
    have hok : okN n.f0 n.f1 = true := by unfold okN; rw [decide_eq_true_eq]; omega
    simp only [allGo]
    rw [List.all_cons]
    unfold nodeOk
    refine ev_bind (nodeMay_ev n.f0 n.f1 (by omega) (by omega)) ?_
    cases isPath (L n.f0) && verOk (L n.f1) with
    | false => exact ev_neg (by decide) (ev_now rfl)
    | true =>
      rw [Bool.true_and]
      refine ev_pos rfl (ev_pos hok ?_)
      rw [idsOf, grow]
      unfold placeOf grow1 ixOf
      cases ixN n.f0 n.f1 names with
      | some i =>
        have h := allGo_ev m l names (out ++ [(i : Int)]) (small_tail hS)
        rw [List.append_assoc] at h
        exact h
      | none =>
        have h := allGo_ev m l (names ++ [n]) (out ++ [(names.length : Int)]) (small_tail hS)
        rw [List.append_assoc] at h
        exact h
theorem All_ev (m l : List Nd) (hm : smallL m) (hl : smallL l) (hz : m.length + l.length ≤ 1000000000) : Ev (fun k => intern_All.f k m l) (if (namesOk m && l.all nodeOk) = true then (idsOf l m, grow l m, 0) else ([], m, 1)) := by
  unfold intern_All.f
  refine ev_bind (tabF_ev m hm (by omega)) ?_
  cases namesOk m with
  | false => exact ev_neg (by decide) (ev_now rfl)
  | true =>
    refine ev_pos rfl (ev_pos hz ?_)
    have h := allGo_ev m l m [] hl
    rw [List.nil_append] at h
    rw [Bool.true_and]
    exact h
theorem awake10_ev : Ev (fun k => graftwoodlaw10_awake.f k) true := by
  have hn : nodeOk ⟨⟨#[97]⟩, ⟨#[118, 49, 46, 48, 46, 48]⟩⟩ = true := by decide +kernel
  have s1 : smallL [(⟨⟨#[97]⟩, ⟨#[118, 49, 46, 48, 46, 48]⟩⟩ : Nd)] := by
    intro x hx
    rw [List.mem_singleton.1 hx]
    exact ⟨by decide, by decide⟩
  have s0 : smallL [] := fun x hx => absurd hx (by simp)
  have hA : grow [(⟨⟨#[97]⟩, ⟨#[118, 49, 46, 48, 46, 48]⟩⟩ : Nd)] [] = [⟨⟨#[97]⟩, ⟨#[118, 49, 46, 48, 46, 48]⟩⟩] := rfl
  have hB : idsOf [(⟨⟨#[97]⟩, ⟨#[118, 49, 46, 48, 46, 48]⟩⟩ : Nd)] [] = [0] := rfl
  have hT : namesOk [(⟨⟨#[97]⟩, ⟨#[118, 49, 46, 48, 46, 48]⟩⟩ : Nd)] = true := by
    unfold namesOk
    rw [tabL, hn]; rfl
  have hI : ixOf (⟨⟨#[97]⟩, ⟨#[118, 49, 46, 48, 46, 48]⟩⟩ : Nd) [⟨⟨#[97]⟩, ⟨#[118, 49, 46, 48, 46, 48]⟩⟩] = some 0 := by
    unfold ixOf
    rw [ixN, if_pos ⟨rfl, rfl⟩]
  have hA2 : grow [(⟨⟨#[97]⟩, ⟨#[118, 49, 46, 48, 46, 48]⟩⟩ : Nd)] [⟨⟨#[97]⟩, ⟨#[118, 49, 46, 48, 46, 48]⟩⟩] = [⟨⟨#[97]⟩, ⟨#[118, 49, 46, 48, 46, 48]⟩⟩] := grow_same _ _ (fun x hx => by rw [List.mem_singleton.1 hx, hI]; rfl)
  have hB2 : idsOf [(⟨⟨#[97]⟩, ⟨#[118, 49, 46, 48, 46, 48]⟩⟩ : Nd)] [⟨⟨#[97]⟩, ⟨#[118, 49, 46, 48, 46, 48]⟩⟩] = [0] := by
    rw [idsOf, idsOf]
    unfold placeOf
    rw [hI]; rfl
  have e1 := All_ev [] _ s0 s1 (by decide)
  have e2 := All_ev _ _ s1 s1 (by decide)
  rw [hA, hB] at e1
  rw [hA2, hB2, hT] at e2
  rw [show (namesOk [] && [(⟨⟨#[97]⟩, ⟨#[118, 49, 46, 48, 46, 48]⟩⟩ : Nd)].all nodeOk) = true by rw [List.all_cons, hn]; rfl, if_pos rfl] at e1
  rw [show (true && [(⟨⟨#[97]⟩, ⟨#[118, 49, 46, 48, 46, 48]⟩⟩ : Nd)].all nodeOk) = true by rw [List.all_cons, hn]; rfl, if_pos rfl] at e2
  unfold graftwoodlaw10_awake.f
  have i1 : Ev (fun k => intern_Id.f k [] (⟨#[97]⟩ : ByteArray) (⟨#[118, 49, 46, 48, 46, 48]⟩ : ByteArray)) (0, [⟨⟨#[97]⟩, ⟨#[118, 49, 46, 48, 46, 48]⟩⟩], 0) := by
    unfold intern_Id.f
    exact ev_bind e1 (ev_pos rfl (ev_pos (by decide) (ev_now rfl)))
  have i2 : Ev (fun k => intern_Id.f k [⟨⟨#[97]⟩, ⟨#[118, 49, 46, 48, 46, 48]⟩⟩] (⟨#[97]⟩ : ByteArray) (⟨#[118, 49, 46, 48, 46, 48]⟩ : ByteArray)) (0, [⟨⟨#[97]⟩, ⟨#[118, 49, 46, 48, 46, 48]⟩⟩], 0) := by
    unfold intern_Id.f
    exact ev_bind e2 (ev_pos rfl (ev_pos (by decide) (ev_now rfl)))
  refine ev_bind i1 (ev_bind i2 ?_)
  refine ev_bind (At_ev _ s1 (by decide) hT [1] (by decide) ([], 2) (by rw [atGo, if_neg (by decide)])) ?_
  refine ev_bind (At_ev _ s1 (by decide) hT [0] (by decide) _ (atGo_one [(⟨⟨#[97]⟩, ⟨#[118, 49, 46, 48, 46, 48]⟩⟩ : Nd)] 0 (by decide))) ?_
  exact ev_pos ⟨rfl, rfl, rfl, rfl, rfl, rfl, rfl, rfl⟩ (ev_now rfl)
end Go.Proofs.YtjneghnknfhboaaDoor.Q

/-
  What the reference of layer 5 (node) comes to: order, With, Set; a set's nodes are the different ones.
-/
namespace Go.Proofs.YtjneghnknfhboaaDoor.Q
open Go.RowKit Go.Proofs.YtjneghnknfhboaaDoor.P Go.Proofs.YtjneghnknfhboaaDoorB Go.Proofs.YtjneghnknfhboaaDoorW.PrintWords Go.Proofs.YtjneghnknfhboaaDoorW.PrintLast Go.Proofs.YtjneghnknfhboaaDoorW.PrintMore
set_option linter.unusedSimpArgs false
set_option linter.unusedVariables false
def dV : Ver := ⟨[], [], [], []⟩
def vN (n : Nd) : Ver := (splitL (L n.f1)).getD dV
theorem vN_some {n : Nd} (h : nodeOk n = true) : splitL (L n.f1) = some (vN n) := by
  unfold nodeOk verOk at h
  simp only [Bool.and_eq_true] at h
  obtain ⟨v, hv⟩ := Option.isSome_iff_exists.1 h.2
  unfold vN
  rw [hv]; rfl
def nodeC (a b : Nd) : Int := lexC cmpL verC (L a.f0, vN a) (L b.f0, vN b)
theorem nodeC_flip (a b : Nd) : nodeC b a = - nodeC a b := (tot_lex tot_cmpL tot_ver).flip _ _
theorem nodeC_zero {a b : Nd} (ha : nodeOk a = true) (hb : nodeOk b = true) : nodeC a b = 0 ↔ a = b := by
  unfold nodeC
  rw [(tot_lex tot_cmpL tot_ver).zero]
  constructor
  · intro h
    simp only [Prod.mk.injEq] at h
    have h1 := vN_some ha
    have h2 := vN_some hb
    rw [← h.2] at h2
    exact nd_ext (L_inj h.1) (L_inj (splitL_inj h1 h2))
  · intro h; rw [h]
theorem less_ev (a b : Nd) (ha : nodeOk a = true) (hb : nodeOk b = true) (sa : a.f0.size ≤ 400 ∧ a.f1.size ≤ 400) (sb : b.f0.size ≤ 400 ∧ b.f1.size ≤ 400) : Ev (fun k => graftwoodref05_Less.f k a.f0 a.f1 b.f0 b.f1) (decide (nodeC a b < 0)) := by
  unfold graftwoodref05_Less.f nodeC lexC
  refine ev_bind (refCmp_ev a.f0 b.f0 (by omega)) ?_
  simp only
  refine ev_ite (fun h => ?_) (fun h => ?_)
  · rw [if_neg (by omega), decide_eq_true h]; exact ev_now rfl
  · refine ev_ite (fun h2 => ?_) (fun h2 => ?_)
    · rw [if_pos h2]
      exact ev_bind (refVerCmp_ev a.f1 b.f1 (by omega) (by omega) (vN a) (vN b) (vN_some ha) (vN_some hb)) (ev_now rfl)
    · rw [if_neg h2, decide_eq_false h]; exact ev_now rfl
def ltN (n x : Nd) : Bool := decide (nodeC x n < 0)
def gtN (n x : Nd) : Bool := decide (nodeC n x < 0)
def withL (m : List Nd) (n : Nd) : List Nd := (m.filter (ltN n) ++ [n]) ++ m.filter (gtN n)
def okL (l : List Nd) : Prop := ∀ n, n ∈ l → nodeOk n = true
theorem with_l1 (m : List Nd) (n : Nd) (hm : okL m) (sm : smallL m) (hn : nodeOk n = true) (sn : n.f0.size ≤ 400 ∧ n.f1.size ≤ 400) (hl : m.length ≤ 1000000) (d : Nat) : ∀ (i : Nat) (acc : List Nd), i + d = m.length → acc.length + d ≤ 3000000 → Ev (fun k => graftwoodref05_With.l1 k m acc i n.f0 n.f1) (acc ++ (m.drop i).filter (gtN n)) := by
  induction d with
  | zero =>
    intro i acc hi _
    refine ev_step (fun k => by rw [graftwoodref05_With.l1]) ?_
    refine ev_neg (by omega) (ev_now ?_)
    rw [List.drop_eq_nil_of_le (by omega)]; simp
  | succ d ih =>
    intro i acc hi ha
    have hil : i < m.length := by omega
    refine ev_step (fun k => by rw [graftwoodref05_With.l1]) ?_
    refine ev_pos (by omega) (ev_pos (by omega) ?_)
    rw [rdN_at m i hil, w_succ i (by omega), List.drop_eq_getElem_cons hil, List.filter_cons]
    refine ev_bind (less_ev n m[i] hn (hm _ (List.getElem_mem hil)) sn (sm _ (List.getElem_mem hil))) ?_
    cases hg : decide (nodeC n m[i] < 0) with
    | true =>
      have hg' : gtN n m[i] = true := hg
      rw [hg', if_pos rfl]
      refine ev_pos rfl (ev_pos (by omega) ?_)
      have h := ih (i + 1) (acc ++ [m[i]]) (by omega) (by rw [List.length_append]; simp only [List.length_cons, List.length_nil]; omega)
      rw [List.append_assoc] at h
      exact h
    | false =>
      have hg' : gtN n m[i] = false := hg
      rw [hg', if_neg (by decide)]
      exact ev_neg (by decide) (ih (i + 1) acc (by omega) (by omega))
theorem with_l0 (m : List Nd) (n : Nd) (hm : okL m) (sm : smallL m) (hn : nodeOk n = true) (sn : n.f0.size ≤ 400 ∧ n.f1.size ≤ 400) (hl : m.length ≤ 1000000) (d : Nat) : ∀ (i : Nat) (acc : List Nd), i + d = m.length → acc.length + d ≤ 1000000 → Ev (fun k => graftwoodref05_With.l0 k m acc i n.f0 n.f1) ((acc ++ (m.drop i).filter (ltN n) ++ [n]) ++ m.filter (gtN n)) := by
  induction d with
  | zero =>
    intro i acc hi ha
    refine ev_step (fun k => by rw [graftwoodref05_With.l0]) ?_
    refine ev_neg (by omega) (ev_pos (by omega) ?_)
    have h := with_l1 m n hm sm hn sn hl m.length 0 (acc ++ [n]) (by omega) (by rw [List.length_append]; simp only [List.length_cons, List.length_nil]; omega)
    rw [List.drop_zero] at h
    rw [List.drop_eq_nil_of_le (by omega), List.filter_nil, List.append_nil]
    exact h
  | succ d ih =>
    intro i acc hi ha
    have hil : i < m.length := by omega
    refine ev_step (fun k => by rw [graftwoodref05_With.l0]) ?_
    refine ev_pos (by omega) (ev_pos (by omega) ?_)
    rw [rdN_at m i hil, w_succ i (by omega), List.drop_eq_getElem_cons hil, List.filter_cons]
    refine ev_bind (less_ev m[i] n (hm _ (List.getElem_mem hil)) hn (sm _ (List.getElem_mem hil)) sn) ?_
    cases hg : decide (nodeC m[i] n < 0) with
    | true =>
      have hg' : ltN n m[i] = true := hg
      rw [hg', if_pos rfl]
      refine ev_pos rfl (ev_pos (by omega) ?_)
      have h := ih (i + 1) (acc ++ [m[i]]) (by omega) (by rw [List.length_append]; simp only [List.length_cons, List.length_nil]; omega)
      rw [List.append_assoc acc] at h
      exact h
    | false =>
      have hg' : ltN n m[i] = false := hg
      rw [hg', if_neg (by decide)]
      exact ev_neg (by decide) (ih (i + 1) acc (by omega) (by omega))
theorem with_ev (m : List Nd) (n : Nd) (hm : okL m) (sm : smallL m) (hn : nodeOk n = true) (sn : n.f0.size ≤ 400 ∧ n.f1.size ≤ 400) (hl : m.length ≤ 100000) : Ev (fun k => graftwoodref05_With.f k m n.f0 n.f1) (withL m n) := by
  unfold graftwoodref05_With.f
  have h := with_l0 m n hm sm hn sn (by omega) m.length 0 [] (by omega) (by simp only [List.length_nil]; omega)
  rw [List.drop_zero, List.nil_append] at h
  exact h
/-! ### what is there -/
theorem with_split (n : Nd) (hn : nodeOk n = true) : ∀ h : List Nd, okL h → (∀ x, x ∈ h → x ≠ n) → (h.filter (ltN n) ++ h.filter (gtN n)).Perm h
  | [], _, _ => List.Perm.refl _
  | x :: h, ho, hx => by
    have ih := with_split n hn h (fun y hy => ho y (List.mem_cons_of_mem _ hy)) (fun y hy => hx y (List.mem_cons_of_mem _ hy))
    have hz : nodeC x n ≠ 0 := fun e => hx x (by simp) ((nodeC_zero (ho x (by simp)) hn).1 e)
    have hf := nodeC_flip x n
    rw [List.filter_cons, List.filter_cons]
    by_cases hc : nodeC x n < 0
    · have h1 : ltN n x = true := decide_eq_true hc
      have h2 : gtN n x = false := decide_eq_false (by omega)
      rw [h1, h2, if_pos rfl, if_neg (by decide), List.cons_append]
      exact ih.cons x
    · have h1 : ltN n x = false := decide_eq_false hc
      have h2 : gtN n x = true := decide_eq_true (by omega)
      rw [h1, h2, if_neg (by decide), if_pos rfl]
      exact List.perm_middle.trans (ih.cons x)
theorem self_lt (n : Nd) : ltN n n = false ∧ gtN n n = false := by
  have : nodeC n n = 0 := ((tot_lex tot_cmpL tot_ver).zero _ _).2 rfl
  exact ⟨decide_eq_false (by omega), decide_eq_false (by omega)⟩
theorem with_there (n : Nd) (hn : nodeOk n = true) (g1 g2 : List Nd) (h1 : okL g1) (h2 : okL g2) (n1 : ∀ x, x ∈ g1 → x ≠ n) (n2 : ∀ x, x ∈ g2 → x ≠ n) : (withL (g1 ++ n :: g2) n).Perm (g1 ++ n :: g2) := by
  have hs := with_split n hn (g1 ++ g2) (fun x hx => by rcases List.mem_append.1 hx with h | h; exact h1 x h; exact h2 x h) (fun x hx => by rcases List.mem_append.1 hx with h | h; exact n1 x h; exact n2 x h)
  obtain ⟨e1, e2⟩ := self_lt n
  unfold withL
  have f1 : (g1 ++ n :: g2).filter (ltN n) = (g1 ++ g2).filter (ltN n) := by rw [List.filter_append, List.filter_append, List.filter_cons, e1, if_neg (by decide)]
  have f2 : (g1 ++ n :: g2).filter (gtN n) = (g1 ++ g2).filter (gtN n) := by rw [List.filter_append, List.filter_append, List.filter_cons, e2, if_neg (by decide)]
  rw [f1, f2, List.append_assoc, List.singleton_append]
  exact (List.perm_middle.trans (hs.cons n)).trans List.perm_middle.symm
theorem with_new (n : Nd) (hn : nodeOk n = true) (g : List Nd) (h : okL g) (hx : ∀ x, x ∈ g → x ≠ n) : (withL g n).Perm (g ++ [n]) := by
  have hs := with_split n hn g h hx
  unfold withL
  rw [List.append_assoc, List.singleton_append]
  exact (List.perm_middle.trans (hs.cons n)).trans (List.perm_append_comm (l₁ := [n])).symm.symm
theorem ix_none {n x : Nd} : ∀ {l : List Nd}, ixOf n l = none → x ∈ l → x ≠ n
  | [], _, hx => absurd hx (by simp)
  | y :: l, h, hx => by
    unfold ixOf at h
    rw [ixN] at h
    by_cases hy : y.f0 = n.f0 ∧ y.f1 = n.f1
    · rw [if_pos hy] at h; cases h
    · rw [if_neg hy] at h
      have h' : ixOf n l = none := by
        unfold ixOf
        cases hh : ixN n.f0 n.f1 l with
        | none => rfl
        | some i => rw [hh] at h; cases h
      rcases List.mem_cons.1 hx with rfl | hx
      · intro e; exact hy (by rw [e]; exact ⟨rfl, rfl⟩)
      · exact ix_none h' hx
theorem with_grow1 (n : Nd) (hn : nodeOk n = true) (g : List Nd) (hg : namesOk g = true) : (withL g n).Perm (grow1 n g) := by
  have ho : okL g := tab_ok g [] hg
  unfold grow1
  cases hx : ixOf n g with
  | none => exact with_new n hn g ho (fun x h => ix_none hx h)
  | some i =>
    obtain ⟨hi, he⟩ := ix_some hx
    have hs : g = g.take i ++ n :: g.drop (i + 1) := by
      have e := (List.take_append_drop i g).symm
      rw [List.drop_eq_getElem_cons hi] at e
      have : g[i] = n := he
      rw [this] at e
      exact e
    have huniq : ∀ (j : Nat) (h : j < g.length), g[j] = n → j = i := by
      intro j h e
      have h1 := tab_ix g [] hg j h
      rw [List.nil_append, List.length_nil, Nat.zero_add, e, hx] at h1
      exact (Option.some.inj h1).symm
    have n1 : ∀ x, x ∈ g.take i → x ≠ n := by
      intro x hxm e
      obtain ⟨j, hj, rfl⟩ := List.getElem_of_mem hxm
      rw [List.getElem_take] at e
      rw [List.length_take] at hj
      have := huniq j (by omega) e
      omega
    have n2 : ∀ x, x ∈ g.drop (i + 1) → x ≠ n := by
      intro x hxm e
      obtain ⟨j, hj, rfl⟩ := List.getElem_of_mem hxm
      rw [List.getElem_drop] at e
      rw [List.length_drop] at hj
      have := huniq (i + 1 + j) (by omega) e
      omega
    have h := with_there n hn (g.take i) (g.drop (i + 1)) (fun x hx => ho x (List.mem_of_mem_take hx)) (fun x hx => ho x (List.mem_of_mem_drop hx)) n1 n2
    rw [← hs] at h
    exact h
theorem with_perm (n : Nd) {a b : List Nd} (h : a.Perm b) : (withL a n).Perm (withL b n) := ((h.filter _).append_right _).append (h.filter _)
def setL : List Nd → List Nd → List Nd
  | [], acc => acc
  | n :: l, acc => setL l (withL acc n)
theorem set_perm : ∀ (l acc g : List Nd), okL l → acc.Perm g → namesOk g = true → (setL l acc).Perm (grow l g)
  | [], acc, g, _, h, _ => h
  | n :: l, acc, g, ho, h, hg => by
    have hn := ho n (by simp)
    have hp := (with_perm n h).trans (with_grow1 n hn g hg)
    exact set_perm l (withL acc n) (grow1 n g) (fun x hx => ho x (List.mem_cons_of_mem _ hx)) hp (tab_grow [n] g hg (fun x hx => by rw [List.mem_singleton.1 hx]; exact hn))
theorem set_loop (l : List Nd) (ho : okL l) (hS : smallL l) (hl : l.length ≤ 1000) (d : Nat) : ∀ (i : Nat) (acc g : List Nd), i + d = l.length → acc.Perm g → namesOk g = true → smallL g → g.length ≤ i → Ev (fun k => graftwoodref05_Set.l0 k l acc i) (setL (l.drop i) acc) := by
  induction d with
  | zero =>
    intro i acc g hi _ _ _ _
    refine ev_step (fun k => by rw [graftwoodref05_Set.l0]) ?_
    refine ev_neg (by omega) (ev_now ?_)
    rw [List.drop_eq_nil_of_le (by omega)]; rfl
  | succ d ih =>
    intro i acc g hi hp hg sg hgl
    have hil : i < l.length := by omega
    have hn := ho _ (List.getElem_mem hil)
    have hs := hS _ (List.getElem_mem hil)
    have hal := hp.length_eq
    refine ev_step (fun k => by rw [graftwoodref05_Set.l0]) ?_
    refine ev_pos (by omega) (ev_pos (by omega) ?_)
    rw [rdN_at l i hil, w_succ i (by omega), List.drop_eq_getElem_cons hil, setL]
    refine ev_bind (with_ev acc l[i] (fun x hx => tab_ok g [] hg x (hp.mem_iff.1 hx)) (fun x hx => sg x (hp.mem_iff.1 hx)) hn hs (by omega)) ?_
    have h1 : smallL [l[i]] := fun x hx => by rw [List.mem_singleton.1 hx]; exact hs
    have h2 := grow_len [l[i]] g
    simp only [List.length_cons, List.length_nil] at h2
    exact ih (i + 1) (withL acc l[i]) (grow1 l[i] g) (by omega) ((with_perm _ hp).trans (with_grow1 _ hn g hg)) (tab_grow [l[i]] g hg (fun x hx => by rw [List.mem_singleton.1 hx]; exact hn)) (grow_small (l := [l[i]]) h1 sg) (by have : (grow1 l[i] g).length ≤ g.length + (0 + 1) := h2; omega)
theorem set_ev (l : List Nd) (ho : okL l) (hS : smallL l) (hl : l.length ≤ 1000) : ∃ r : List Nd, r.length = (grow l []).length ∧ Ev (fun k => graftwoodref05_Set.f k l) r := by
  refine ⟨setL l [], (set_perm l [] [] ho (List.Perm.refl _) rfl).length_eq, ?_⟩
  unfold graftwoodref05_Set.f
  have h := set_loop l ho hS hl l.length 0 [] [] (by omega) (List.Perm.refl _) rfl (fun x hx => absurd hx (by simp)) (by simp)
  rw [List.drop_zero] at h
  exact h
end Go.Proofs.YtjneghnknfhboaaDoor.Q

namespace Go.Proofs.YtjneghnknfhboaaDoor.Pure
open Go.RowKit Go.Proofs.YtjneghnknfhboaaDoor.P Go.Proofs.YtjneghnknfhboaaDoor.Q Go.Proofs.YtjneghnknfhboaaDoorB Go.Proofs.YtjneghnknfhboaaDoorW.PrintWords Go.Proofs.YtjneghnknfhboaaDoorW.PrintLast Go.Proofs.YtjneghnknfhboaaDoorW.PrintMore
set_option linter.unusedVariables false
theorem grow_snoc : ∀ (a m : List Nd) (n : Nd), grow (a ++ [n]) m = grow1 n (grow a m)
  | [], m, n => rfl
  | x :: a, m, n => grow_snoc a (grow1 x m) n
theorem ids_get : ∀ (l m : List Nd) (i : Nat) (h : i < l.length) (h' : i < (idsOf l m).length), (idsOf l m)[i] = (placeOf l[i] (grow (l.take i) m) : Int)
  | [], m, i, h, _ => absurd h (by simp)
  | n :: l, m, 0, _, _ => rfl
  | n :: l, m, i + 1, h, h' => ids_get l (grow1 n m) i (by simpa using h) (by simpa [idsOf] using h')
theorem Dense_loop (l : List Nd) (ho : okL l) (hS : smallL l) (hl : l.length ≤ 24) (d : Nat) : ∀ i : Nat, i + d = l.length → Ev (fun k => graftwoodlaw10_InternDense.l0 k l (idsOf l []) ((grow (l.take i) []).length : Int) i (grow l [])) true := by
  have hil := ids_len l []
  induction d with
  | zero =>
    intro i hi
    refine ev_step (fun k => by rw [graftwoodlaw10_InternDense.l0]) ?_
    rw [List.take_of_length_le (by omega)]
    obtain ⟨r, hr, he⟩ := set_ev l ho hS (by omega)
    exact ev_neg (by omega) (ev_pos rfl (ev_bind he (ev_pos (by rw [hr]) (ev_last awake10_ev))))
  | succ d ih =>
    intro i hi
    have hlt : i < l.length := by omega
    have hg := ids_get l [] i hlt (by omega)
    have hgl := grow_len (l.take i) []
    rw [List.length_take, List.length_nil] at hgl
    have hn := ih (i + 1) (by omega)
    rw [List.take_succ_eq_append_getElem hlt, grow_snoc] at hn
    refine ev_step (fun k => by rw [graftwoodlaw10_InternDense.l0]) ?_
    refine ev_pos (by omega) (ev_pos (by omega) (ev_pos (by omega) ?_))
    rw [rdI_at _ i (by omega), hg]
    have hj : Ev (fun k => graftwoodlaw10_InternDense.j1 k l (idsOf l []) ((grow (l.take i) []).length : Int) i false (grow l [])) true := by
      refine ev_step (fun k => by rw [graftwoodlaw10_InternDense.j1]) ?_
      refine ev_neg (by decide) (ev_pos (by omega) (ev_pos (by omega) ?_))
      rw [rdI_at _ i (by omega), hg, w_succ i (by omega)]
      unfold placeOf
      unfold grow1 at hn
      cases hx : ixOf l[i] (grow (l.take i) []) with
      | some j =>
        obtain ⟨h1, -⟩ := ix_some hx
        rw [hx] at hn
        exact ev_neg (by simp only; omega) hn
      | none =>
        rw [hx] at hn
        simp only [List.length_append, List.length_cons, List.length_nil] at hn
        refine ev_pos rfl ?_
        rw [w_succ _ (by omega)]
        exact hn
    have hle : placeOf l[i] (grow (l.take i) []) ≤ (grow (l.take i) []).length := by
      unfold placeOf
      cases hx : ixOf l[i] (grow (l.take i) []) with
      | some j =>
        obtain ⟨h1, -⟩ := ix_some hx
        simp only; omega
      | none => exact Nat.le_refl _
    refine ev_neg (by omega) ?_
    rw [decide_eq_false (by omega)]
    exact hj
theorem InternDense : graftwoodlaw10_InternDense.Goal := by
  intro x0 _
  refine Ev.rounds (g := fun k => graftwoodlaw10_InternDense.f k x0) ?_
  unfold graftwoodlaw10_InternDense.f
  refine ev_bind (few5_ev x0) ?_
  have hS := few_small x0
  have hl := fewL_len x0
  generalize fewL x0 = l at *
  refine ev_bind (All_ev [] l (fun x hx => absurd hx (by simp)) hS (by simp only [List.length_nil]; omega)) ?_
  rw [show namesOk [] = true from rfl, Bool.true_and]
  cases ha : l.all nodeOk with
  | false => exact ev_neg (by simp) (ev_pos (by simp) (ev_last awake10_ev))
  | true =>
    refine ev_pos rfl (ev_pos (by simp only [if_true, ids_len]) ?_)
    exact Dense_loop l (fun n hn => List.all_eq_true.1 ha n hn) hS hl l.length 0 (by omega)
end Go.Proofs.YtjneghnknfhboaaDoor.Pure
