import Derived.Test.YtknmfmedklfepaaGreatDoorWWords
import Derived.Test.YtknmfmedklfepaaGreatDoorWMore
import Derived.Lib.Strings
import Derived.Test.YtknmfmedklfepaaGreatDoorP4
import Derived.Test.YtknmfmedklfepaaGreatDoorP12
import Derived.Test.YtknmfmedklfepaaGreatDoorP24
import Derived.Test.YtknmfmedklfepaaGreatDoorP13
import Derived.Test.YtknmfmedklfepaaGreatDoorP11
import Derived.Test.YtknmfmedklfepaaGreatDoorP19
import Derived.Test.YtknmfmedklfepaaGreatDoorP14
import Derived.Test.YtknmfmedklfepaaGreatDoorP8
import Derived.Test.YtknmfmedklfepaaGreatDoorP5
import Derived.Test.YtknmfmedklfepaaGreatDoorP20
import Derived.Test.YtknmfmedklfepaaGreatDoorP27
import Derived.Test.YtknmfmedklfepaaGreatDoorP25
import Derived.Test.YtknmfmedklfepaaGreatDoorP26
import Derived.Test.YtknmfmedklfepaaGreatDoorP6
import Derived.Test.YtknmfmedklfepaaGreatDoorP7
import Derived.Test.YtknmfmedklfepaaGreatDoorP9
import Derived.Test.YtknmfmedklfepaaGreatDoorP16
import Derived.Test.YtknmfmedklfepaaGreatDoorP29
import Derived.Test.YtknmfmedklfepaaGreatDoorP31
import Derived.Test.YtknmfmedklfepaaGreatDoorP10
import Derived.Test.YtknmfmedklfepaaGreatDoorP34
import Derived.Test.YtknmfmedklfepaaGreatDoorP28
import Derived.Test.YtknmfmedklfepaaGreatDoorP30
import Derived.Test.YtknmfmedklfepaaGreatDoorP32
import Derived.Test.YtknmfmedklfepaaGreatDoorP36
import Derived.Test.YtknmfmedklfepaaGreatDoorP33
import Derived.Test.YtknmfmedklfepaaGreatDoorP35
import Derived.Test.YtknmfmedklfepaaGreatDoorGListChanges
/-
  Plain lemmas: 'eventually' (Ev) over the number of rounds, lists of octets. No program in sight.
-/
namespace Go.Proofs.YtknmfmedklfepaaGreatDoorB
open Go.RowKit Go.Proofs.YtknmfmedklfepaaGreatDoorW.PrintWords Go.Proofs.YtknmfmedklfepaaGreatDoorW.PrintLast Go.Proofs.YtknmfmedklfepaaGreatDoorW.PrintMore

theorem ev_rounds {α : Type} {g : Nat → Option α} {r : α} (h : Ev g r) : ∃ k, g k = some r := by
  obtain ⟨K, hK⟩ := h
  exact ⟨K, hK K (Nat.le_refl _)⟩
theorem ev_bind {α β : Type} {g : Nat → Option α} {f : Nat → α → Option β} {a : α} {r : β} (h : Ev g a) (k : Ev (fun n => f n a) r) : Ev (fun n => (g n).bind (f n)) r := Ev.bind h k
theorem ev_some {α β : Type} {f : Nat → α → Option β} {a : α} {r : β} (k : Ev (fun n => f n a) r) : Ev (fun n => (some a).bind (f n)) r := k
theorem ev_pos {α : Type} {c : Prop} [Decidable c] {f g : Nat → Option α} {r : α} (h : c) (k : Ev f r) : Ev (fun n => if c then f n else g n) r := by
  simpa only [if_pos h] using k
theorem ev_neg {α : Type} {c : Prop} [Decidable c] {f g : Nat → Option α} {r : α} (h : ¬ c) (k : Ev g r) : Ev (fun n => if c then f n else g n) r := by
  simpa only [if_neg h] using k
theorem ev_ite {α : Type} {c : Prop} [Decidable c] {f g : Nat → Option α} {r : α} (h : c → Ev f r) (k : ¬ c → Ev g r) : Ev (fun n => if c then f n else g n) r := by
  by_cases hc : c
  · exact ev_pos hc (h hc)
  · exact ev_neg hc (k hc)
theorem ev_now {α : Type} {a r : α} (h : a = r) : Ev (fun _ => some a) r := by subst h; exact ⟨0, fun _ _ => rfl⟩
theorem ev_last {α : Type} {g : Nat → Option α} {r : α} (h : Ev g r) : Ev (fun n => (g n).bind fun t => some t) r := ev_bind h (ev_now rfl)
theorem ev_step {α : Type} {g f : Nat → Option α} {r : α} (h : ∀ k, g (k + 1) = f k) (k : Ev f r) : Ev g r := Ev.step h k

/-! ### numbers -/
theorem w_id {i : Int} (h0 : -9223372036854775808 ≤ i) (h1 : i ≤ 9223372036854775807) : wrap64 i = i := by unfold wrap64; omega
theorem w_small {i : Int} (h0 : -4611686018427387904 ≤ i) (h1 : i ≤ 4611686018427387904) : wrap64 i = i := w_id (by omega) (by omega)
theorem w_succ (i : Nat) (h : i ≤ 4611686018427387904) : wrap64 ((i : Int) + 1) = ((i + 1 : Nat) : Int) := by
  have h1 : wrap64 ((i : Int) + 1) = (i : Int) + 1 := w_id (by omega) (by omega)
  rw [h1]; rfl
theorem mn_eq (a b : Nat) : mn (a : Int) (b : Int) = ((min a b : Nat) : Int) := by unfold mn; split <;> omega

theorem drop_nil {α : Type} (l : List α) (i : Nat) (h : l.length ≤ i) : l.drop i = [] := List.drop_eq_nil_of_le h
/-! ### texts -/
/-- A text's octets. -/
def L (s : ByteArray) : List UInt8 := s.data.toList
theorem L_size (s : ByteArray) : (L s).length = s.size := by simp [L]
theorem L_inj {a b : ByteArray} (h : L a = L b) : a = b := by
  cases a; cases b; simp only [L] at h; congr; exact Array.ext' h
theorem toList_L (s : ByteArray) : s.toList = L s := Lib.toList_data s
theorem L_mk (l : List UInt8) : L ⟨l.toArray⟩ = l := rfl
theorem mk_L (s : ByteArray) : (⟨(L s).toArray⟩ : ByteArray) = s := by cases s; rfl
theorem L_extract (s : ByteArray) (a b : Nat) : L (s.extract a b) = ((L s).drop a).take (b - a) := Lib.extract_data s a b
theorem bt_L (s : ByteArray) (i : Nat) (h : i < (L s).length) : bt s i = ((L s)[i].toNat : Int) := by
  have h' : i < s.size := by rw [← L_size]; exact h
  unfold bt
  rw [dif_pos (by simpa using h')]
  rfl
theorem rdOf_at {α : Type} (d : α) (l : List α) (i : Nat) (h : i < l.length) : rdOf d l i = l[i] := by
  simp [rdOf, List.getD_eq_getElem?_getD, h]

/-! ### the order of texts -/
theorem less_eq : ∀ (x y : List UInt8), Op.bytesLess x y = decide (x < y)
  | [], [] => by simp [Op.bytesLess]
  | _ :: _, [] => by simp [Op.bytesLess]
  | [], _ :: _ => by simp [Op.bytesLess]
  | a :: x, b :: y => by
    rw [Op.bytesLess, less_eq x y]
    simp only [List.cons_lt_cons_iff]
    by_cases h1 : a < b <;> by_cases h2 : a = b <;> by_cases h3 : x < y <;> simp [h1, h2, h3]
/-- Two texts held against one another. -/
def cmpL (x y : List UInt8) : Int := if x < y then -1 else if y < x then 1 else 0
theorem cmpL_self (x : List UInt8) : cmpL x x = 0 := by simp [cmpL, List.lt_irrefl]
theorem cmpL_zero {x y : List UInt8} : cmpL x y = 0 ↔ x = y := by
  unfold cmpL
  constructor
  · intro h
    by_cases h1 : x < y
    · rw [if_pos h1] at h; omega
    · rw [if_neg h1] at h
      by_cases h2 : y < x
      · rw [if_pos h2] at h; omega
      · exact List.le_antisymm (List.not_lt.1 h2) (List.not_lt.1 h1)
  · intro h; subst h; simp [List.lt_irrefl]
theorem cmpL_neg {x y : List UInt8} : cmpL x y < 0 ↔ x < y := by
  unfold cmpL
  by_cases h1 : x < y
  · simp [h1]
  · by_cases h2 : y < x <;> simp [h1, h2]
theorem cmpL_flip (x y : List UInt8) : cmpL y x = - cmpL x y := by
  unfold cmpL
  by_cases h1 : x < y
  · have h2 : ¬ y < x := List.lt_asymm h1
    simp [h1, h2]
  · by_cases h2 : y < x <;> simp [h1, h2]
theorem cmpL_le {x y : List UInt8} : cmpL x y ≤ 0 ↔ x ≤ y := by
  rw [← List.not_lt, ← cmpL_neg, cmpL_flip x y]
  omega
end Go.Proofs.YtknmfmedklfepaaGreatDoorB

/-
  What the printed functions of layer 1 (octet), its reference and its law's helpers come to: plain lists of octets.
-/
namespace Go.Proofs.YtknmfmedklfepaaGreatDoor.Q
open Go.RowKit Go.Proofs.YtknmfmedklfepaaGreatDoor.P Go.Proofs.YtknmfmedklfepaaGreatDoorB Go.Proofs.YtknmfmedklfepaaGreatDoorW.PrintWords Go.Proofs.YtknmfmedklfepaaGreatDoorW.PrintLast Go.Proofs.YtknmfmedklfepaaGreatDoorW.PrintMore
set_option linter.unusedSimpArgs false

/-! ### Few -/
def few (a : ByteArray) : ByteArray := if a.size > 400 then a.extract 0 400 else a
theorem few_size (a : ByteArray) : (few a).size ≤ 400 := by
  unfold few
  split
  · simp; omega
  · omega
theorem Few_eq (a : ByteArray) : graftwoodlaw01_Few.f a = some (few a) := by
  unfold graftwoodlaw01_Few.f few
  by_cases h : a.size > 400
  · rw [if_pos (by omega), if_pos (by omega), if_pos (by omega), if_pos h]
  · rw [if_neg (by omega), if_neg h]

/-! ### Cmp -/
theorem Cmp_eq (a b : ByteArray) : octet_Cmp.f a b = some (cmpL (L a) (L b)) := by
  unfold octet_Cmp.f cmp_Compare_string.f cmp_isNaN_string.f cmpL
  simp only [Option.bind_some, bne_self_eq_false, toList_L, less_eq, decide_eq_true_eq]
  by_cases h1 : L a < L b
  · simp [h1]
  · by_cases h2 : L b < L a <;> simp [h1, h2]

/-! ### Parts -/
def partsB (c : UInt8) (s : ByteArray) : List ByteArray := (partsL c (L s)).map fun x => ⟨x.toArray⟩
theorem Parts_eq (s : ByteArray) (c : Int) (h0 : 0 ≤ c) (h1 : c < 256) (hs : s.size ≤ 1000000000) : octet_Parts.f s c = some (partsB c.toNat.toUInt8 s) := by
  unfold octet_Parts.f
  rw [if_pos h0, if_pos h1, if_pos hs]
  rfl
theorem partsB_length (c : UInt8) (s : ByteArray) : (partsB c s).length = (partsL c (L s)).length := by simp [partsB]
theorem partsL_pos (c : UInt8) (l : List UInt8) : 1 ≤ (partsL c l).length := (partsL_length c l).2
theorem partsL_ne (c : UInt8) (l : List UInt8) : partsL c l ≠ [] := fun h => by have := partsL_pos c l; rw [h] at this; simp at this
/-- Put together again. -/
def joinL (c : UInt8) : List (List UInt8) → List UInt8
  | [] => []
  | [x] => x
  | x :: y :: l => x ++ c :: joinL c (y :: l)
theorem joinL_cons (c : UInt8) (x : List UInt8) (l : List (List UInt8)) (h : l ≠ []) : joinL c (x :: l) = x ++ c :: joinL c l := by
  cases l with
  | nil => exact absurd rfl h
  | cons y l => rfl
theorem partsL_split (c : UInt8) (l : List UInt8) : ∃ h t, partsL c l = h :: t := by
  cases hp : partsL c l with
  | nil => exact absurd hp (partsL_ne c l)
  | cons h t => exact ⟨h, t, rfl⟩
theorem joinL_parts (c : UInt8) : ∀ l : List UInt8, joinL c (partsL c l) = l
  | [] => rfl
  | b :: l => by
    have ih := joinL_parts c l
    rw [partsL]
    by_cases h : b = c
    · rw [if_pos h, joinL_cons c [] _ (partsL_ne c l), ih, h]; rfl
    · rw [if_neg h]
      obtain ⟨x, t, hx⟩ := partsL_split c l
      rw [hx] at ih ⊢
      rw [← ih]
      cases t with
      | nil => rfl
      | cons y t => rfl
theorem partsL_append (c : UInt8) (b : List UInt8) : ∀ a : List UInt8, partsL c (a ++ c :: b) = partsL c a ++ partsL c b
  | [] => by simp [partsL]
  | x :: a => by
    have ih := partsL_append c b a
    rw [List.cons_append, partsL, ih, partsL]
    obtain ⟨p, t, hp⟩ := partsL_split c a
    by_cases h : x = c
    · rw [if_pos h, if_pos h]; rfl
    · rw [if_neg h, if_neg h, hp]; rfl
theorem partsL_whole (c : UInt8) (l : List UInt8) (h : c ∉ l) : partsL c l = [l] := by
  induction l with
  | nil => rfl
  | cons b l ih =>
    simp only [List.mem_cons, not_or] at h
    rw [partsL, if_neg (fun e => h.1 e.symm), ih h.2]
    rfl
theorem part_le (c : UInt8) : ∀ (l : List UInt8) (p : List UInt8), p ∈ partsL c l → p.length ≤ l.length
  | [], p, hp => by simp [partsL] at hp; simp [hp]
  | b :: l, p, hp => by
    have ih := part_le c l
    obtain ⟨x, t, hx⟩ := partsL_split c l
    rw [partsL, hx] at hp
    rw [hx] at ih
    by_cases h : b = c
    · rw [if_pos h] at hp
      rcases List.mem_cons.1 hp with rfl | hp
      · simp
      · have := ih p hp; simp; omega
    · rw [if_neg h] at hp
      rcases List.mem_cons.1 hp with rfl | hp
      · have := ih x (by simp); simpa using this
      · have := ih p (by simp at hp ⊢; exact .inr hp); simp; omega
/-! ### the reference's Cmp -/
theorem cmpL_cons_cons (x y : UInt8) (a b : List UInt8) : cmpL (x :: a) (y :: b) = if x < y then -1 else if y < x then 1 else cmpL a b := by
  unfold cmpL
  simp only [List.cons_lt_cons_iff]
  by_cases h1 : x < y
  · simp [h1]
  · by_cases h2 : y < x
    · have h3 : ¬ x = y := fun e => by subst e; exact UInt8.lt_irrefl _ h2
      simp [h1, h2, h3]
    · have h3 : x = y := UInt8.le_antisymm (UInt8.not_lt.1 h2) (UInt8.not_lt.1 h1)
      subst h3
      simp [h1]
theorem refCmp_loop (a b : ByteArray) (hb : (L a).length ≤ 1000000000) (d : Nat) : ∀ i : Nat, i + d = min (L a).length (L b).length → Ev (fun k => graftwoodref01_Cmp.l0 k a b i) (cmpL ((L a).drop i) ((L b).drop i)) := by
  have sa := L_size a
  have sb := L_size b
  induction d with
  | zero =>
    intro i hi
    refine ev_step (fun k => by rw [graftwoodref01_Cmp.l0]) ?_
    have hlast : ∀ c : Bool, c = false → Ev (fun k => graftwoodref01_Cmp.j1 k a b i c) (cmpL ((L a).drop i) ((L b).drop i)) := by
      intro c hc
      subst hc
      refine ev_step (fun k => by rw [graftwoodref01_Cmp.j1]) ?_
      refine ev_neg (by simp) ?_
      refine ev_ite (fun h => ?_) (fun h => ?_)
      · refine ev_now ?_
        rw [drop_nil (L a) i (by omega), List.drop_eq_getElem_cons (l := L b) (by omega)]
        rfl
      · refine ev_ite (fun h' => ?_) (fun h' => ?_)
        · refine ev_now ?_
          rw [drop_nil (L b) i (by omega), List.drop_eq_getElem_cons (l := L a) (by omega)]
          rfl
        · refine ev_now ?_
          rw [drop_nil (L b) i (by omega), drop_nil (L a) i (by omega)]
          rfl
    refine ev_ite (fun h => hlast _ (decide_eq_false (by omega))) (fun h => hlast _ rfl)
  | succ d ih =>
    intro i hi
    have ha : i < (L a).length := by omega
    have hb' : i < (L b).length := by omega
    refine ev_step (fun k => by rw [graftwoodref01_Cmp.l0]) ?_
    refine ev_pos (by omega) ?_
    rw [show decide ((i : Int) < (b.size : Int)) = true from decide_eq_true (by omega)]
    refine ev_step (fun k => by rw [graftwoodref01_Cmp.j1]) ?_
    refine ev_pos rfl (ev_pos (by omega) (ev_pos (by omega) (ev_pos (by omega) ?_)))
    rw [List.drop_eq_getElem_cons ha, List.drop_eq_getElem_cons hb', cmpL_cons_cons]
    have hlt : ∀ x y : UInt8, x < y ↔ (x.toNat : Int) < (y.toNat : Int) := fun x y => by rw [UInt8.lt_iff_toNat_lt]; omega
    refine ev_ite (fun h => ?_) (fun h => ?_)
    · rw [bt_L a i ha, bt_L b i hb', ← hlt] at h
      rw [if_pos h]; exact ev_now rfl
    · rw [bt_L a i ha, bt_L b i hb', ← hlt] at h
      rw [if_neg h]
      refine ev_ite (fun h' => ?_) (fun h' => ?_)
      · have h'' : (bt b i) < (bt a i) := h'
        rw [bt_L a i ha, bt_L b i hb', ← hlt] at h''
        rw [if_pos h'']; exact ev_now rfl
      · have h'' : ¬ (bt b i) < (bt a i) := h'
        rw [bt_L a i ha, bt_L b i hb', ← hlt] at h''
        rw [if_neg h'']
        have e := w_succ i (by omega)
        rw [e]
        exact ih (i + 1) (by omega)
theorem refCmp_ev (a b : ByteArray) (ha : a.size ≤ 1000000000) : Ev (fun k => graftwoodref01_Cmp.f k a b) (cmpL (L a) (L b)) :=
  refCmp_loop a b (by rw [L_size]; exact ha) (min (L a).length (L b).length) 0 (by omega)

/-! ### the reference's Parts -/
theorem refParts_loop (s : ByteArray) (c : UInt8) (hs : (L s).length ≤ 1000000000) (d : Nat) : ∀ (i fr : Nat) (out : List ByteArray), i + d = (L s).length → fr ≤ i → c ∉ ((L s).drop fr).take (i - fr) → out.length ≤ i →
    Ev (fun k => graftwoodref01_Parts.l0 k s (c.toNat : Int) out fr i) (out ++ (partsL c ((L s).drop fr)).map fun x => ⟨x.toArray⟩) := by
  have sz := L_size s
  have hex : ∀ a b : Nat, s.extract a b = ⟨(((L s).drop a).take (b - a)).toArray⟩ := fun a b => by rw [← L_extract, mk_L]
  induction d with
  | zero =>
    intro i fr out hi hf hc ho
    refine ev_step (fun k => by rw [graftwoodref01_Parts.l0]) ?_
    refine ev_neg (by omega) (ev_pos (by omega) (ev_pos (by omega) (ev_pos (by omega) (ev_now ?_))))
    rw [List.take_of_length_le (by simp; omega)] at hc
    rw [partsL_whole c _ hc, Int.toNat_natCast, hex, List.take_of_length_le (by simp <;> omega)]
    rfl
  | succ d ih =>
    intro i fr out hi hf hc ho
    have hil : i < (L s).length := by omega
    have e := w_succ i (by omega)
    refine ev_step (fun k => by rw [graftwoodref01_Parts.l0]) ?_
    refine ev_pos (by omega) (ev_pos (by omega) ?_)
    refine ev_ite (fun h => ?_) (fun h => ?_)
    · have hx : (L s)[i] = c := by rw [bt_L s i hil] at h; exact UInt8.toNat_inj.1 (by omega)
      refine ev_pos (by omega) (ev_pos (by omega) (ev_pos (by omega) (ev_pos (by omega) ?_)))
      rw [e, Int.toNat_natCast, Int.toNat_natCast, hex]
      have hd : (L s).drop fr = ((L s).drop fr).take (i - fr) ++ c :: (L s).drop (i + 1) := by
        conv => lhs; rw [← List.take_append_drop (i - fr) ((L s).drop fr)]
        rw [List.drop_drop, show fr + (i - fr) = i by omega, List.drop_eq_getElem_cons hil, hx]
      have hr := ih (i + 1) (i + 1) (out ++ [⟨(((L s).drop fr).take (i - fr)).toArray⟩]) (by omega) (Nat.le_refl _) (by simp) (by simp; omega)
      rw [show (partsL c ((L s).drop fr)) = (((L s).drop fr).take (i - fr)) :: partsL c ((L s).drop (i + 1)) by
        conv => lhs; rw [hd]
        rw [partsL_append, partsL_whole c _ hc]; rfl]
      rw [List.append_assoc] at hr
      exact hr
    · have hx : ¬ (L s)[i] = c := fun hx => h (by rw [bt_L s i hil, hx])
      rw [e]
      refine ih (i + 1) fr out (by omega) (by omega) ?_ (by omega)
      rw [show i + 1 - fr = (i - fr) + 1 by omega, List.take_succ_eq_append_getElem (by simp; omega)]
      simp only [List.mem_append, List.mem_singleton, not_or, List.getElem_drop]
      refine ⟨hc, fun hh => hx ?_⟩
      rw [hh]
      congr 1
      omega
theorem refParts_ev (s : ByteArray) (c : Int) (h0 : 0 ≤ c) (h1 : c < 256) (hs : s.size ≤ 1000000000) : Ev (fun k => graftwoodref01_Parts.f k s c) (partsB c.toNat.toUInt8 s) := by
  have hc : (c.toNat.toUInt8.toNat : Int) = c := by
    have : c.toNat.toUInt8.toNat = c.toNat := by
      show (UInt8.ofNat c.toNat).toNat = _
      rw [UInt8.toNat_ofNat']
      omega
    omega
  have h := refParts_loop s c.toNat.toUInt8 (by rw [L_size]; exact hs) (L s).length 0 0 [] (by omega) (Nat.le_refl _) (by simp) (by simp)
  rw [hc] at h
  simpa [graftwoodref01_Parts.f, partsB] using h


/-! ### the reference's Class -/
theorem refClass_all : ∀ n : Fin 256, graftwoodref01_Class.f 5 (n.val : Int) = some (clsOf (n.val : Int)) := by decide +kernel
theorem refClass_ev (c : Int) (h0 : 0 ≤ c) (h1 : c < 256) : Ev (fun k => graftwoodref01_Class.f k c) (clsOf c) := by
  obtain ⟨n, rfl⟩ := Int.eq_ofNat_of_zero_le h0
  exact Ev.of (fun k => graftwoodref01_Class.mono _ k) (refClass_all ⟨n, by omega⟩)
theorem All_eq (s : ByteArray) (l : List Int) (hs : s.size ≤ 1000000000) : octet_All.f s l = some (allOf l (L s)) := by
  unfold octet_All.f
  rw [if_pos hs]
  rfl
end Go.Proofs.YtknmfmedklfepaaGreatDoor.Q

/-
  What the printed functions of layers 2 (number) and 3 (version) and their references come to.
-/
namespace Go.Proofs.YtknmfmedklfepaaGreatDoor.Q
open Go.RowKit Go.Proofs.YtknmfmedklfepaaGreatDoor.P Go.Proofs.YtknmfmedklfepaaGreatDoorB Go.Proofs.YtknmfmedklfepaaGreatDoorW.PrintWords Go.Proofs.YtknmfmedklfepaaGreatDoorW.PrintLast Go.Proofs.YtknmfmedklfepaaGreatDoorW.PrintMore
set_option linter.unusedSimpArgs false
set_option linter.unusedVariables false

/-! ### numbers -/
def zeroOk : List UInt8 → Bool
  | [] => true
  | b :: l => !(b == 48) || l.isEmpty
def numL (l : List UInt8) : Bool := !l.isEmpty && allOf [1] l && zeroOk l
theorem number_May_eq (s : ByteArray) (hs : s.size ≤ 1000000000) : number_May.f s = some (numL (L s)) := by
  have sz := L_size s
  unfold number_May.f
  rw [toList_L, All_eq s [1] hs]
  cases hL : L s with
  | nil => rfl
  | cons b l =>
    rw [hL] at sz
    simp only [List.length_cons] at sz
    have h0 : bt s 0 = (b.toNat : Int) := by
      have := bt_L s 0 (by rw [hL]; simp)
      simpa [hL] using this
    rw [if_neg (by simp), Option.bind_some]
    unfold numL
    cases ha : allOf [1] (b :: l) with
    | false => rw [if_neg (by simp)]; simp
    | true =>
      rw [if_pos rfl, if_pos (by omega), h0]
      have hb48 : ((b.toNat : Int) = 48) ↔ b = 48 := ⟨fun e => UInt8.toNat_inj.1 (by have : (48 : UInt8).toNat = 48 := rfl; omega), fun e => by rw [e]; rfl⟩
      by_cases h : b = 48
      · rw [if_pos (hb48.2 h)]
        congr 1
        rw [Bool.eq_iff_iff, beq_iff_eq]
        unfold zeroOk
        rw [h]
        cases l with
        | nil => simp at sz ⊢; omega
        | cons c l => simp only [List.length_cons] at sz; simp; omega
      · rw [if_neg (fun e => h (hb48.1 e))]
        unfold zeroOk
        simp [h]
def cmpI (a b : Int) : Int := if a < b then -1 else if a > b then 1 else 0
theorem Compare_eq (a b : Int) : cmp_Compare_int.f a b = some (cmpI a b) := by
  unfold cmp_Compare_int.f cmp_isNaN_int.f cmpI
  simp only [Option.bind_some, bne_self_eq_false, Bool.false_eq_true, if_false]
  split
  · rfl
  · split <;> rfl
def orL : List Int → Int
  | [] => 0
  | a :: l => if a = 0 then orL l else a
theorem Or_loop (l : List Int) (hl : l.length ≤ 1000000000) (d : Nat) : ∀ i : Nat, i + d = l.length → Ev (fun k => cmp_Or_int.l0 k 0 l l.length i) (orL (l.drop i)) := by
  induction d with
  | zero =>
    intro i hi
    refine ev_step (fun k => by rw [cmp_Or_int.l0]) ?_
    refine ev_neg (by omega) (ev_now ?_)
    rw [List.drop_eq_nil_of_le (by omega)]; rfl
  | succ d ih =>
    intro i hi
    have hil : i < l.length := by omega
    refine ev_step (fun k => by rw [cmp_Or_int.l0]) ?_
    refine ev_pos (by omega) (ev_pos (by omega) (ev_pos (by omega) ?_))
    have hr : rd l (i : Int) = l[i] := by simp [rd, List.getD_eq_getElem?_getD, hil]
    rw [hr, w_succ i (by omega), List.drop_eq_getElem_cons hil, orL]
    refine ev_ite (fun h => ?_) (fun h => ?_)
    · rw [if_pos h]; exact ih (i + 1) (by omega)
    · rw [if_neg h]; exact ev_now rfl
theorem Or_ev (l : List Int) (hl : l.length ≤ 1000000000) : Ev (fun k => cmp_Or_int.f k l) (orL l) := by
  unfold cmp_Or_int.f
  have h := Or_loop l hl l.length 0 (by omega)
  rw [List.drop_zero] at h
  exact h
/-- Two numbers held against one another. -/
def numC (a b : List UInt8) : Int := if cmpI a.length b.length = 0 then cmpL a b else cmpI a.length b.length
def numbersL (a b : List UInt8) : Int := if numL a && numL b then numC a b else 0
theorem number_Cmp_ev (a b : ByteArray) (ha : a.size ≤ 1000000000) (hb : b.size ≤ 1000000000) : Ev (fun k => number_Cmp.f k a b) (if numL (L a) && numL (L b) then (numC (L a) (L b), 0) else (0, 1)) := by
  unfold number_Cmp.f
  rw [number_May_eq a ha, number_May_eq b hb]
  simp only [Option.bind_some]
  cases numL (L a) with
  | false =>
    refine ev_neg (by decide) ?_
    refine ev_step (fun k => by rw [number_Cmp.j0]) ?_
    exact ev_pos rfl (ev_now rfl)
  | true =>
    refine ev_pos rfl ?_
    refine ev_step (fun k => by rw [number_Cmp.j0]) ?_
    cases numL (L b) with
    | false => exact ev_pos rfl (ev_now rfl)
    | true =>
      refine ev_neg (by decide) ?_
      rw [Compare_eq, Cmp_eq]
      simp only [Option.bind_some]
      refine ev_bind (Or_ev _ (by simp)) (ev_now ?_)
      simp only [orL, numC, L_size, Bool.and_self, if_true]
      by_cases h : cmpI (a.size : Int) (b.size : Int) = 0
      · rw [if_pos h, if_pos h]
        by_cases h2 : cmpL (L a) (L b) = 0
        · rw [if_pos h2, h2]
        · rw [if_neg h2]
      · rw [if_neg h, if_neg h]
theorem numbers_ev (a b : ByteArray) (ha : a.size ≤ 1000000000) (hb : b.size ≤ 1000000000) : Ev (fun k => version_numbers.f k a b) (numbersL (L a) (L b)) := by
  unfold version_numbers.f
  refine ev_bind (number_Cmp_ev a b ha hb) (ev_now ?_)
  unfold numbersL
  cases numL (L a) && numL (L b) <;> rfl

/-! ### words -/
def wordsL (a b : List UInt8) : Int := if numL a then (if numL b then numC a b else -1) else if numL b then 1 else cmpL a b
theorem words_ev (a b : ByteArray) (ha : a.size ≤ 1000000000) (hb : b.size ≤ 1000000000) : Ev (fun k => version_words.f k a b) (wordsL (L a) (L b)) := by
  have hn := numbers_ev a b ha hb
  unfold numbersL at hn
  unfold version_words.f
  rw [number_May_eq a ha, number_May_eq b hb]
  simp only [Option.bind_some]
  unfold wordsL
  cases h1 : numL (L a) with
  | false =>
    refine ev_neg (by decide) ?_
    refine ev_step (fun k => by rw [version_words.j0]) ?_
    refine ev_neg (by decide) (ev_neg (by decide) ?_)
    cases h2 : numL (L b) with
    | false =>
      refine ev_neg (by decide) ?_
      rw [Cmp_eq]
      exact ev_now rfl
    | true => exact ev_pos rfl (ev_now rfl)
  | true =>
    refine ev_pos rfl ?_
    refine ev_step (fun k => by rw [version_words.j0]) ?_
    cases h2 : numL (L b) with
    | false => exact ev_neg (by decide) (ev_pos rfl (ev_now rfl))
    | true =>
      rw [h1, h2] at hn
      exact ev_pos rfl (ev_last hn)
def badL (l : List UInt8) : Bool := l.any fun b => ([46, 95, 126] : List UInt8).contains b
theorem indexAny_any (chars : List UInt8) : ∀ l : List UInt8, decide (Lib.indexAny l chars ≥ 0) = l.any fun b => chars.contains b
  | [] => rfl
  | b :: l => by
    have ih := indexAny_any chars l
    have hg := Lib.indexAny_ge chars l
    rw [Lib.indexAny, List.any_cons, ← ih]
    cases chars.contains b with
    | true => rfl
    | false =>
      rw [if_neg (by decide), Bool.false_or]
      by_cases h : Lib.indexAny l chars = -1
      · rw [if_pos (by rw [h]; rfl), h]
      · rw [if_neg (by simpa using h)]
        congr 1
        rw [eq_iff_iff]
        constructor <;> intro _ <;> omega
theorem ContainsAny_eq (s : ByteArray) (hs : s.size ≤ 1000000000) : strings_ContainsAny.f s (⟨#[46, 95, 126]⟩ : ByteArray) = some (badL (L s)) := by
  unfold strings_ContainsAny.f strings_IndexAny.f
  rw [if_pos ⟨hs, by decide, by decide, by decide⟩, Option.bind_some]
  congr 1
  exact indexAny_any _ _
def wordL (l : List UInt8) : Bool := !l.isEmpty && !badL l && allOf [1, 2, 3] l && (numL l || !allOf [1] l)
theorem word_ev (s : ByteArray) (hs : s.size ≤ 1000000000) : Ev (fun k => version_word.f k s) (wordL (L s)) := by
  have htrue : ∀ r, r = false → Ev (fun k => version_word.j0 k s true) r := by
    intro r hr
    refine ev_step (fun k => by rw [version_word.j0]) ?_
    exact ev_pos rfl (ev_now hr.symm)
  unfold version_word.f
  rw [ContainsAny_eq s hs, All_eq s _ hs, toList_L]
  simp only [Option.bind_some]
  unfold wordL
  refine ev_ite (fun h => htrue _ (by rw [h]; rfl)) (fun h => ?_)
  have hne : (L s).isEmpty = false := by
    cases hL : L s with
    | nil => exact absurd hL h
    | cons => rfl
  rw [hne]
  cases badL (L s) with
  | true => exact ev_pos rfl (htrue _ rfl)
  | false =>
    refine ev_neg (by decide) ?_
    cases allOf [1, 2, 3] (L s) with
    | false => exact htrue _ rfl
    | true =>
      refine ev_step (fun k => by rw [version_word.j0]) ?_
      refine ev_neg (by decide) ?_
      rw [number_May_eq s hs, All_eq s _ hs]
      simp only [Option.bind_some]
      cases numL (L s) with
      | true => exact ev_pos rfl (ev_now rfl)
      | false => exact ev_neg (by decide) (ev_now rfl)

/-! ### cut -/
def cutL : List UInt8 → List UInt8 × List UInt8 × Bool
  | [] => ([], [], false)
  | b :: l => if b = 45 then ([], l, true) else (b :: (cutL l).1, (cutL l).2.1, (cutL l).2.2)
theorem cutL_index : ∀ l : List UInt8, (Lib.indexByte l 45 = -1 ∧ cutL l = (l, [], false)) ∨ ∃ i : Nat, Lib.indexByte l 45 = i ∧ i < l.length ∧ cutL l = (l.take i, l.drop (i + 1), true)
  | [] => .inl ⟨rfl, rfl⟩
  | b :: l => by
    rw [Lib.indexByte, cutL]
    by_cases h : b = 45
    · right
      rw [if_pos (by simp [h]), if_pos h]
      exact ⟨0, rfl, by simp, rfl⟩
    · rw [if_neg (by simp [h]), if_neg h]
      rcases cutL_index l with ⟨h1, h2⟩ | ⟨i, h1, h2, h3⟩
      · left
        rw [h1, h2]
        exact ⟨rfl, rfl⟩
      · right
        refine ⟨i + 1, ?_, by simp; omega, by rw [h3]; rfl⟩
        rw [h1, if_neg (by simp only [beq_iff_eq]; omega)]
        rfl
def mkB (l : List UInt8) : ByteArray := ⟨l.toArray⟩
theorem L_mkB (l : List UInt8) : L (mkB l) = l := rfl
theorem mkB_size (l : List UInt8) : (mkB l).size = l.length := by rw [← L_size, L_mkB]
theorem mkB_L (s : ByteArray) : mkB (L s) = s := mk_L s
theorem Cut_eq (s : ByteArray) (hs : s.size ≤ 1000000000) : strings_Cut.f s (⟨#[45]⟩ : ByteArray) = some (mkB (cutL (L s)).1, mkB (cutL (L s)).2.1, (cutL (L s)).2.2) := by
  have sz := L_size s
  unfold strings_Cut.f stringslite_Cut.f stringslite_Index.f
  rw [if_pos (show (⟨#[45]⟩ : ByteArray).size = 1 from rfl), Option.bind_some]
  have hsep : (⟨#[45]⟩ : ByteArray).size = 1 := rfl
  have hix : Lib.indexByte s.data.toList (List.headD (⟨#[45]⟩ : ByteArray).data.toList 0) = Lib.indexByte (L s) 45 := rfl
  rw [hix, hsep]
  rcases cutL_index (L s) with ⟨h1, h2⟩ | ⟨i, h1, h2, h3⟩
  · rw [h1, h2, if_neg (by decide), Option.bind_some]
    simp only [mkB_L]
    rfl
  · have hw : wrap64 ((i : Int) + (1 : Nat)) = ((i + 1 : Nat) : Int) := w_succ i (by omega)
    rw [h1, h3, hw, if_pos (by omega), if_pos (by omega), if_pos (by omega), if_pos (by omega), if_pos (by omega), Option.bind_some]
    simp only [Int.toNat_natCast]
    congr 1
    refine Prod.ext ?_ (Prod.ext ?_ rfl)
    · refine L_inj ?_
      rw [L_extract, List.drop_zero, Nat.sub_zero]; rfl
    · refine L_inj ?_
      rw [L_extract, List.take_of_length_le (by rw [List.length_drop]; omega)]; rfl
theorem cutL_sizes (l : List UInt8) : (cutL l).1.length ≤ l.length ∧ (cutL l).2.1.length ≤ l.length := by
  rcases cutL_index l with ⟨-, h⟩ | ⟨i, -, h2, h⟩
  · rw [h]; simp
  · rw [h]; simp only [List.length_take, List.length_drop]; omega

/-! ### versions -/
structure Ver where
  a : List UInt8
  b : List UInt8
  c : List UInt8
  p : List (List UInt8)
def coreL (l : List UInt8) : Option (List UInt8 × List UInt8 × List UInt8) := match partsL 46 l with
  | [a, b, c] => if numL a && numL b && numL c then some (a, b, c) else none
  | _ => none
def splitC (core pre : List UInt8) (has : Bool) : Option Ver := match coreL core with
  | some (a, b, c) => if has then (if (partsL 46 pre).all wordL then some ⟨a, b, c, partsL 46 pre⟩ else none) else some ⟨a, b, c, []⟩
  | none => none
def splitL : List UInt8 → Option Ver
  | [] => none
  | v :: t => if v = 118 then splitC (cutL t).1 (cutL t).2.1 (cutL t).2.2 else none
theorem splitL_cons (v : UInt8) (t : List UInt8) : splitL (v :: t) = if v = 118 then splitC (cutL t).1 (cutL t).2.1 (cutL t).2.2 else none := rfl
def verR : Option Ver → ByteArray × ByteArray × ByteArray × List ByteArray × Int
  | some v => (mkB v.a, mkB v.b, mkB v.c, v.p.map mkB, 0)
  | none => (⟨#[]⟩, ⟨#[]⟩, ⟨#[]⟩, [], 1)
theorem Split_loop (x : List ByteArray) (a b c : ByteArray) (p : List ByteArray) (hx : x.length ≤ 1000000001) (hm : ∀ s, s ∈ x → s.size ≤ 1000000000) (d : Nat) : ∀ i : Nat, i + d = x.length →
    Ev (fun k => version_Split.l0 k x x.length i a b c p) (if (x.drop i).all fun s => wordL (L s) then (a, b, c, p, 0) else (⟨#[]⟩, ⟨#[]⟩, ⟨#[]⟩, [], 1)) := by
  induction d with
  | zero =>
    intro i hi
    refine ev_step (fun k => by rw [version_Split.l0]) ?_
    refine ev_neg (by omega) (ev_now ?_)
    rw [List.drop_eq_nil_of_le (by omega)]; rfl
  | succ d ih =>
    intro i hi
    have hil : i < x.length := by omega
    refine ev_step (fun k => by rw [version_Split.l0]) ?_
    refine ev_pos (by omega) (ev_pos (by omega) (ev_pos (by omega) ?_))
    rw [rdOf_at _ x i hil, w_succ i (by omega), List.drop_eq_getElem_cons hil, List.all_cons]
    refine ev_bind (word_ev _ (hm _ (List.getElem_mem _))) ?_
    refine ev_ite (fun h => ?_) (fun h => ?_)
    · rw [h, Bool.true_and]
      exact ih (i + 1) (by omega)
    · have h' : wordL (L x[i]) = false := by simpa using h
      rw [h', Bool.false_and]
      exact ev_now rfl
theorem partsB_mk (c : UInt8) (l : List UInt8) : partsB c (mkB l) = (partsL c l).map mkB := rfl
theorem HasPrefix_v (s : ByteArray) : strings_HasPrefix.f s (⟨#[118]⟩ : ByteArray) = some (match L s with | [] => false | b :: _ => b == 118) := by
  have sz := L_size s
  unfold strings_HasPrefix.f stringslite_HasPrefix.f
  have h1 : (⟨#[118]⟩ : ByteArray).size = 1 := rfl
  rw [h1]
  cases hL : L s with
  | nil =>
    rw [hL] at sz
    simp only [List.length_nil] at sz
    rw [if_neg (by omega)]; rfl
  | cons b l =>
    rw [hL] at sz
    simp only [List.length_cons] at sz
    rw [if_pos (by omega), if_pos (by omega), if_pos (by omega), Option.bind_some]
    congr 1
    have : (s.extract 0 ((1 : Nat) : Int).toNat).toList = [b] := by
      rw [toList_L, L_extract, hL]; rfl
    rw [this]
    have h2 : (⟨#[118]⟩ : ByteArray).toList = [118] := by rw [toList_L]; rfl
    rw [h2]
    simp
theorem Split_ev (s : ByteArray) (hs : s.size ≤ 1000000) : Ev (fun k => version_Split.f k s) (verR (splitL (L s))) := by
  have sz := L_size s
  unfold version_Split.f
  rw [HasPrefix_v]
  refine ev_some ?_
  cases hL : L s with
  | nil => exact ev_neg (by decide) (ev_now rfl)
  | cons v t =>
    rw [hL] at sz
    simp only [List.length_cons] at sz
    by_cases hv : v = 118
    case neg => exact ev_neg (by simp [hv]) (ev_now (by rw [splitL_cons, if_neg hv]; rfl))
    refine ev_pos (by simp [hv]) (ev_pos (by omega) ?_)
    have ht : s.extract 1 s.size = mkB t := by
      refine L_inj ?_
      rw [L_extract, hL, L_mkB]
      show List.take _ t = t
      exact List.take_of_length_le (by omega)
    rw [ht, Cut_eq _ (by rw [mkB_size]; omega), L_mkB]
    simp only [Option.bind_some]
    rw [splitL_cons, if_pos hv]
    have hcs := cutL_sizes t
    generalize cutL t = ct at *
    obtain ⟨core, pre, has⟩ := ct
    simp only at hcs ⊢
    rw [Parts_eq _ 46 (by decide) (by decide) (by rw [mkB_size]; omega)]
    simp only [Option.bind_some]
    have h46 : (46 : Int).toNat.toUInt8 = 46 := rfl
    rw [h46, partsB_mk]
    have hcl := (partsL_length 46 core).1
    have hple := part_le 46 core
    have hbad : ∀ (x : ByteArray) (y : Bool) (z : List ByteArray), Ev (fun k => version_Split.j0 k x y z true) (verR none) := by
      intro x y z
      refine ev_step (fun k => by rw [version_Split.j0]) ?_
      exact ev_pos rfl (ev_now rfl)
    unfold splitC coreL
    rcases hpl : partsL 46 core with _ | ⟨a, _ | ⟨b, _ | ⟨c, _ | ⟨d, r⟩⟩⟩⟩
    · exact ev_neg (by decide) (hbad _ _ _)
    · exact ev_neg (by simp) (hbad _ _ _)
    · exact ev_neg (by simp) (hbad _ _ _)
    · rw [hpl] at hple
      have la := hple a (by simp)
      have lb := hple b (by simp)
      have lc := hple c (by simp)
      refine ev_pos rfl (ev_pos (by simp) ?_)
      have r0 : rdOf ByteArray.empty (List.map mkB [a, b, c]) 0 = mkB a := rfl
      have r1 : rdOf ByteArray.empty (List.map mkB [a, b, c]) 1 = mkB b := rfl
      have r2 : rdOf ByteArray.empty (List.map mkB [a, b, c]) 2 = mkB c := rfl
      rw [r0, r1, r2, number_May_eq _ (by rw [mkB_size]; omega), number_May_eq _ (by rw [mkB_size]; omega), number_May_eq _ (by rw [mkB_size]; omega), L_mkB, L_mkB, L_mkB]
      simp only [Option.bind_some]
      cases numL a with
      | false => exact ev_neg (by decide) (hbad _ _ _)
      | true =>
        refine ev_pos rfl (ev_pos (by simp) ?_)
        cases numL b with
        | false => exact ev_neg (by decide) (hbad _ _ _)
        | true =>
          refine ev_pos rfl (ev_pos (by simp) ?_)
          cases numL c with
          | false => exact hbad _ _ _
          | true =>
            refine ev_step (fun k => by rw [version_Split.j0]) ?_
            refine ev_neg (by decide) (ev_pos (by simp) (ev_pos (by simp) (ev_pos (by simp) ?_)))
            rw [r0, r1, r2]
            cases has with
            | false => exact ev_neg (by decide) (ev_now rfl)
            | true =>
              refine ev_pos rfl ?_
              rw [Parts_eq _ 46 (by decide) (by decide) (by rw [mkB_size]; omega), h46, partsB_mk]
              refine ev_some ?_
              have hpl2 := (partsL_length 46 pre).1
              have hp2 := part_le 46 pre
              have h := Split_loop ((partsL 46 pre).map mkB) (mkB a) (mkB b) (mkB c) ((partsL 46 pre).map mkB) (by rw [List.length_map]; omega) (fun x hx => by
                obtain ⟨y, hy, rfl⟩ := List.mem_map.1 hx
                have := hp2 y hy
                rw [mkB_size]; omega) ((partsL 46 pre).map mkB).length 0 (by omega)
              have he : (((partsL 46 pre).map mkB).drop 0).all (fun s => wordL (L s)) = (partsL 46 pre).all wordL := by
                rw [List.drop_zero, List.all_map]; rfl
              rw [he] at h
              simp only [Bool.and_self, if_true]
              revert h
              cases (partsL 46 pre).all wordL <;> exact fun h => h
    · exact ev_neg (by simp; omega) (hbad _ _ _)
def verOk (l : List UInt8) : Bool := (splitL l).isSome
theorem verMay_ev (s : ByteArray) (hs : s.size ≤ 1000000) : Ev (fun k => version_May.f k s) (verOk (L s)) := by
  unfold version_May.f
  refine ev_bind (Split_ev s hs) (ev_now ?_)
  unfold verOk
  cases splitL (L s) <;> rfl

/-! ### orders -/
structure Tot {α : Type} (c : α → α → Int) : Prop where
  flip : ∀ a b, c b a = - c a b
  zero : ∀ a b, c a b = 0 ↔ a = b
  trans : ∀ a b d, c a b ≤ 0 → c b d ≤ 0 → c a d ≤ 0
theorem Tot.strictL {α : Type} {c : α → α → Int} (h : Tot c) {a b d : α} (h1 : c a b < 0) (h2 : c b d ≤ 0) : c a d < 0 := by
  have h3 := h.trans a b d (by omega) h2
  rcases Int.lt_or_eq_of_le h3 with h4 | h4
  · exact h4
  · have e := (h.zero a d).1 h4
    subst e
    have := h.flip a b
    omega
theorem tot_cmpL : Tot cmpL where
  flip := cmpL_flip
  zero := fun _ _ => cmpL_zero
  trans := fun a b d h1 h2 => cmpL_le.2 (List.le_trans (cmpL_le.1 h1) (cmpL_le.1 h2))
theorem cmpI_flip (a b : Int) : cmpI b a = - cmpI a b := by unfold cmpI; split <;> split <;> first | omega | (split <;> omega) | rfl
theorem cmpI_zero (a b : Int) : cmpI a b = 0 ↔ a = b := by unfold cmpI; split <;> (try split) <;> omega
theorem cmpI_le (a b : Int) : cmpI a b ≤ 0 ↔ a ≤ b := by unfold cmpI; split <;> (try split) <;> omega
def lexC {α β : Type} (c1 : α → α → Int) (c2 : β → β → Int) (x y : α × β) : Int := if c1 x.1 y.1 = 0 then c2 x.2 y.2 else c1 x.1 y.1
theorem tot_lex {α β : Type} {c1 : α → α → Int} {c2 : β → β → Int} (h1 : Tot c1) (h2 : Tot c2) : Tot (lexC c1 c2) where
  flip := by
    intro x y
    unfold lexC
    have f1 := h1.flip x.1 y.1
    have f2 := h2.flip x.2 y.2
    by_cases h : c1 x.1 y.1 = 0
    · rw [if_pos h, if_pos (by omega)]; exact f2
    · rw [if_neg h, if_neg (by omega)]; exact f1
  zero := by
    intro x y
    unfold lexC
    by_cases h : c1 x.1 y.1 = 0
    · rw [if_pos h, h2.zero]
      exact ⟨fun e => Prod.ext ((h1.zero _ _).1 h) e, fun e => by rw [e]⟩
    · rw [if_neg h]
      exact ⟨fun e => absurd e h, fun e => absurd ((h1.zero _ _).2 (by rw [e])) h⟩
  trans := by
    intro x y z e1 e2
    unfold lexC at *
    by_cases ha : c1 x.1 y.1 = 0
    · rw [if_pos ha] at e1
      have hxy := (h1.zero _ _).1 ha
      rw [hxy]
      by_cases hb : c1 y.1 z.1 = 0
      · rw [if_pos hb] at e2 ⊢
        exact h2.trans _ _ _ e1 e2
      · rw [if_neg hb] at e2 ⊢
        exact e2
    · rw [if_neg ha] at e1
      by_cases hb : c1 y.1 z.1 = 0
      · have hyz := (h1.zero _ _).1 hb
        rw [← hyz, if_neg ha]; exact e1
      · rw [if_neg hb] at e2
        have := h1.strictL (a := x.1) (b := y.1) (d := z.1) (by omega) e2
        rw [if_neg (by omega)]; omega
def listC {α : Type} (c : α → α → Int) : List α → List α → Int
  | [], [] => 0
  | [], _ :: _ => -1
  | _ :: _, [] => 1
  | a :: x, b :: y => if c a b = 0 then listC c x y else c a b
theorem tot_list {α : Type} {c : α → α → Int} (h : Tot c) : Tot (listC c) where
  flip := by
    intro x
    induction x with
    | nil => intro y; cases y <;> rfl
    | cons a x ih =>
      intro y
      cases y with
      | nil => rfl
      | cons b y =>
        unfold listC
        have f := h.flip a b
        by_cases e : c a b = 0
        · rw [if_pos e, if_pos (by omega)]; exact ih y
        · rw [if_neg e, if_neg (by omega)]; exact f
  zero := by
    intro x
    induction x with
    | nil => intro y; cases y <;> simp [listC]
    | cons a x ih =>
      intro y
      cases y with
      | nil => simp [listC]
      | cons b y =>
        unfold listC
        by_cases e : c a b = 0
        · rw [if_pos e, ih y, (h.zero a b).1 e]; simp
        · rw [if_neg e]
          exact ⟨fun h0 => absurd h0 e, fun h0 => absurd ((h.zero a b).2 (List.cons.inj h0).1) e⟩
  trans := by
    intro x
    induction x with
    | nil => intro y z h1 h2; cases z <;> simp [listC]
    | cons a x ih =>
      intro y z h1 h2
      cases y with
      | nil => simp [listC] at h1
      | cons b y =>
        cases z with
        | nil => simp [listC] at h2
        | cons d z =>
          unfold listC at h1 h2 ⊢
          by_cases e1 : c a b = 0
          · rw [if_pos e1] at h1
            have hab := (h.zero a b).1 e1
            rw [hab]
            by_cases e2 : c b d = 0
            · rw [if_pos e2] at h2 ⊢
              exact ih y z h1 h2
            · rw [if_neg e2] at h2 ⊢; exact h2
          · rw [if_neg e1] at h1
            by_cases e2 : c b d = 0
            · have hbd := (h.zero b d).1 e2
              rw [← hbd, if_neg e1]; exact h1
            · rw [if_neg e2] at h2
              have := h.strictL (a := a) (b := b) (d := d) (by omega) h2
              rw [if_neg (by omega)]; omega
theorem tot_numC : Tot numC where
  flip := by
    intro a b
    unfold numC
    have f1 := cmpI_flip (a.length : Int) b.length
    have f2 := cmpL_flip a b
    by_cases h : cmpI (a.length : Int) b.length = 0
    · rw [if_pos h, if_pos (by omega)]; exact f2
    · rw [if_neg h, if_neg (by omega)]; exact f1
  zero := by
    intro a b
    unfold numC
    by_cases h : cmpI (a.length : Int) b.length = 0
    · rw [if_pos h, cmpL_zero]
    · rw [if_neg h]
      exact ⟨fun e => absurd e h, fun e => absurd ((cmpI_zero _ _).2 (by rw [e])) h⟩
  trans := by
    intro a b d h1 h2
    unfold numC at *
    have z1 := cmpI_zero (a.length : Int) b.length
    have z2 := cmpI_zero (b.length : Int) d.length
    have z3 := cmpI_zero (a.length : Int) d.length
    have l1 := cmpI_le (a.length : Int) b.length
    have l2 := cmpI_le (b.length : Int) d.length
    have l3 := cmpI_le (a.length : Int) d.length
    by_cases e1 : cmpI (a.length : Int) b.length = 0
    · rw [if_pos e1] at h1
      have e1' := z1.1 e1
      by_cases e2 : cmpI (b.length : Int) d.length = 0
      · rw [if_pos e2] at h2
        have e2' := z2.1 e2
        rw [if_pos (z3.2 (by omega))]
        exact tot_cmpL.trans _ _ _ h1 h2
      · rw [if_neg e2] at h2
        have h2' := l2.1 h2
        rw [if_neg (fun e => e2 (z2.2 (by have := z3.1 e; omega)))]
        exact l3.2 (by omega)
    · rw [if_neg e1] at h1
      have h1' := l1.1 h1
      by_cases e2 : cmpI (b.length : Int) d.length = 0
      · have e2' := z2.1 e2
        rw [if_neg (fun e => e1 (z1.2 (by have := z3.1 e; omega)))]
        exact l3.2 (by omega)
      · rw [if_neg e2] at h2
        have h2' := l2.1 h2
        rw [if_neg (fun e => e1 (z1.2 (by have := z3.1 e; omega)))]
        exact l3.2 (by omega)
theorem tot_words : Tot wordsL where
  flip := by
    intro a b
    unfold wordsL
    cases numL a <;> cases numL b
    · exact cmpL_flip a b
    · rfl
    · rfl
    · exact tot_numC.flip a b
  zero := by
    intro a b
    unfold wordsL
    cases ha : numL a <;> cases hb : numL b
    · exact cmpL_zero
    · simp; intro e; rw [e, hb] at ha; cases ha
    · simp; intro e; rw [e, hb] at ha; cases ha
    · exact tot_numC.zero a b
  trans := by
    intro a b d h1 h2
    unfold wordsL at *
    cases ha : numL a <;> cases hb : numL b <;> cases hd : numL d <;> simp only [ha, hb, hd, if_true, Bool.false_eq_true, if_false] at h1 h2 ⊢
    · exact tot_cmpL.trans _ _ _ h1 h2
    · omega
    · omega
    · omega
    · omega
    · omega
    · omega
    · exact tot_numC.trans _ _ _ h1 h2
/-- The words behind: none comes last. -/
def preV (x y : List (List UInt8)) : Int := if x.isEmpty || y.isEmpty then cmpI y.length x.length else listC wordsL x y
theorem tot_preV : Tot preV where
  flip := by
    intro x y
    unfold preV
    have f1 := cmpI_flip (y.length : Int) x.length
    have f2 := (tot_list tot_words).flip x y
    cases x <;> cases y <;> first | exact f1 | exact f2
  zero := by
    intro x y
    unfold preV
    have f2 := (tot_list tot_words).zero x y
    cases x with
    | nil =>
      cases y with
      | nil => exact ⟨fun _ => rfl, fun _ => rfl⟩
      | cons b y => first | (simp [cmpI]; done) | (simp [cmpI]; omega)
    | cons a x =>
      cases y with
      | nil => first | (simp [cmpI]; done) | (simp [cmpI]; omega)
      | cons b y => exact f2
  trans := by
    intro x y z h1 h2
    unfold preV at *
    cases x with
    | nil =>
      cases y with
      | nil => exact h2
      | cons b y =>
        have h1' : cmpI ((b :: y).length : Int) (([] : List (List UInt8)).length : Int) ≤ 0 := h1
        exact absurd ((cmpI_le _ _).1 h1') (by simp only [List.length_cons, List.length_nil]; omega)
    | cons a x =>
      cases z with
      | nil =>
        show cmpI (([] : List (List UInt8)).length : Int) ((a :: x).length : Int) ≤ 0
        exact (cmpI_le _ _).2 (by simp only [List.length_cons, List.length_nil]; omega)
      | cons d z =>
        cases y with
        | nil =>
          have h2' : cmpI ((d :: z).length : Int) (([] : List (List UInt8)).length : Int) ≤ 0 := h2
          exact absurd ((cmpI_le _ _).1 h2') (by simp only [List.length_cons, List.length_nil]; omega)
        | cons b y => exact (tot_list tot_words).trans _ _ _ h1 h2
def verP (v : Ver) : List UInt8 × List UInt8 × List UInt8 × List (List UInt8) := (v.a, v.b, v.c, v.p)
def verC (x y : Ver) : Int := lexC numC (lexC numC (lexC numC preV)) (verP x) (verP y)
theorem tot_ver : Tot verC where
  flip := fun x y => (tot_lex tot_numC (tot_lex tot_numC (tot_lex tot_numC tot_preV))).flip (verP x) (verP y)
  zero := fun x y => by
    refine ((tot_lex tot_numC (tot_lex tot_numC (tot_lex tot_numC tot_preV))).zero (verP x) (verP y)).trans ?_
    constructor
    · intro h
      obtain ⟨a, b, c, p⟩ := x
      obtain ⟨a', b', c', p'⟩ := y
      simp only [verP, Prod.mk.injEq] at h
      obtain ⟨rfl, rfl, rfl, rfl⟩ := h
      rfl
    · intro h; rw [h]
  trans := fun x y z h1 h2 => (tot_lex tot_numC (tot_lex tot_numC (tot_lex tot_numC tot_preV))).trans (verP x) (verP y) (verP z) h1 h2
theorem verC_eq (x y : Ver) : verC x y = if numC x.a y.a = 0 then (if numC x.b y.b = 0 then (if numC x.c y.c = 0 then preV x.p y.p else numC x.c y.c) else numC x.b y.b) else numC x.a y.a := rfl
theorem verC_orL (x y : Ver) (h : ¬ (x.a = y.a ∧ x.b = y.b ∧ x.c = y.c)) : verC x y = orL [numC x.a y.a, numC x.b y.b, numC x.c y.c] := by
  rw [verC_eq]
  simp only [orL]
  by_cases h1 : numC x.a y.a = 0
  · rw [if_pos h1, if_pos h1]
    by_cases h2 : numC x.b y.b = 0
    · rw [if_pos h2, if_pos h2]
      by_cases h3 : numC x.c y.c = 0
      · exact absurd ⟨(tot_numC.zero _ _).1 h1, (tot_numC.zero _ _).1 h2, (tot_numC.zero _ _).1 h3⟩ h
      · rw [if_neg h3, if_neg h3]
    · rw [if_neg h2, if_neg h2]
  · rw [if_neg h1, if_neg h1]
theorem verC_pre (x y : Ver) (h : x.a = y.a ∧ x.b = y.b ∧ x.c = y.c) : verC x y = preV x.p y.p := by
  rw [verC_eq]
  rw [if_pos ((tot_numC.zero _ _).2 h.1), if_pos ((tot_numC.zero _ _).2 h.2.1), if_pos ((tot_numC.zero _ _).2 h.2.2)]

/-! ### Cmp -/
theorem Cmp_loop (x y : List ByteArray) (a b c a' b' c' : ByteArray) (hx : x.length ≤ 1000000001) (hy : y.length ≤ 1000000001) (hmx : ∀ s, s ∈ x → s.size ≤ 1000000000) (hmy : ∀ s, s ∈ y → s.size ≤ 1000000000) (d : Nat) : ∀ i : Nat, i + d = min x.length y.length →
    Ev (fun k => version_Cmp.l0 k ((min x.length y.length : Nat) : Int) i a b c x a' b' c' y) (listC wordsL ((x.map L).drop i) ((y.map L).drop i), 0) := by
  induction d with
  | zero =>
    intro i hi
    refine ev_step (fun k => by rw [version_Cmp.l0]) ?_
    refine ev_neg (by omega) ?_
    rw [Compare_eq]
    refine ev_now ?_
    congr 1
    have hxl : (x.map L).length = x.length := List.length_map _
    have hyl : (y.map L).length = y.length := List.length_map _
    unfold cmpI
    rcases Nat.lt_trichotomy x.length y.length with h | h | h
    · rw [if_pos (by omega), List.drop_eq_nil_of_le (by omega), List.drop_eq_getElem_cons (by omega)]; rfl
    · rw [if_neg (by omega), if_neg (by omega), List.drop_eq_nil_of_le (by omega), List.drop_eq_nil_of_le (by omega)]; rfl
    · rw [if_neg (by omega), if_pos (by omega), show (y.map L).drop i = [] from List.drop_eq_nil_of_le (by omega), List.drop_eq_getElem_cons (by omega)]; rfl
  | succ d ih =>
    intro i hi
    have hix : i < x.length := by omega
    have hiy : i < y.length := by omega
    refine ev_step (fun k => by rw [version_Cmp.l0]) ?_
    refine ev_pos (by omega) (ev_pos (by omega) (ev_pos (by omega) (ev_pos (by omega) ?_)))
    rw [rdOf_at _ x i hix, rdOf_at _ y i hiy, w_succ i (by omega), List.drop_eq_getElem_cons (l := x.map L) (by rw [List.length_map]; exact hix), List.drop_eq_getElem_cons (l := y.map L) (by rw [List.length_map]; exact hiy), List.getElem_map, List.getElem_map, listC]
    refine ev_bind (words_ev _ _ (hmx _ (List.getElem_mem _)) (hmy _ (List.getElem_mem _))) ?_
    refine ev_ite (fun h => ?_) (fun h => ?_)
    · rw [if_pos h]; exact ih (i + 1) (by omega)
    · rw [if_neg h]; exact ev_now rfl
theorem coreL_some {l a b c : List UInt8} (h : coreL l = some (a, b, c)) : partsL 46 l = [a, b, c] ∧ numL a = true ∧ numL b = true ∧ numL c = true := by
  unfold coreL at h
  split at h
  · rename_i a' b' c' hp
    split at h
    · rename_i hn
      simp only [Option.some.injEq, Prod.mk.injEq] at h
      obtain ⟨rfl, rfl, rfl⟩ := h
      simp only [Bool.and_eq_true] at hn
      exact ⟨hp, hn.1.1, hn.1.2, hn.2⟩
    · cases h
  · cases h
theorem splitL_some {l : List UInt8} {v : Ver} (h : splitL l = some v) : ∃ t, l = 118 :: t ∧ partsL 46 (cutL t).1 = [v.a, v.b, v.c] ∧ numL v.a = true ∧ numL v.b = true ∧ numL v.c = true ∧ v.p.all wordL = true ∧ (if (cutL t).2.2 then v.p = partsL 46 (cutL t).2.1 else v.p = []) := by
  cases l with
  | nil => cases h
  | cons b t =>
    rw [splitL_cons] at h
    unfold splitC at h
    split at h
    · rename_i hb
      split at h
      · rename_i a b c hc
        obtain ⟨h1, h2, h3, h4⟩ := coreL_some hc
        split at h
        · rename_i hh
          split at h
          · rename_i hw
            obtain rfl := Option.some.inj h
            exact ⟨t, by rw [hb], h1, h2, h3, h4, hw, by rw [if_pos hh]⟩
          · cases h
        · rename_i hh
          obtain rfl := Option.some.inj h
          exact ⟨t, by rw [hb], h1, h2, h3, h4, rfl, by rw [if_neg hh]⟩
      · cases h
    · cases h
theorem splitL_sizes {l : List UInt8} {v : Ver} (h : splitL l = some v) : v.a.length ≤ l.length ∧ v.b.length ≤ l.length ∧ v.c.length ≤ l.length ∧ v.p.length ≤ l.length + 1 ∧ ∀ x, x ∈ v.p → x.length ≤ l.length := by
  obtain ⟨t, rfl, hp, -, -, -, -, hq⟩ := splitL_some h
  have hs := cutL_sizes t
  have hpl := part_le 46 (cutL t).1
  rw [hp] at hpl
  have h1 := hpl v.a (by simp)
  have h2 := hpl v.b (by simp)
  have h3 := hpl v.c (by simp)
  simp only [List.length_cons]
  refine ⟨by omega, by omega, by omega, ?_⟩
  split at hq
  · rw [hq]
    have := (partsL_length 46 (cutL t).2.1).1
    refine ⟨by omega, fun x hx => ?_⟩
    have := part_le 46 _ x hx
    omega
  · rw [hq]; simp
def cmpR (x y : Option Ver) : Int × Int := match x, y with
  | some v, some w => (verC v w, 0)
  | _, _ => (0, 1)
theorem map_L_mkB (l : List (List UInt8)) : (l.map mkB).map L = l := by
  rw [List.map_map]
  exact List.map_id'' (fun _ => rfl) _
theorem mkB_toList (l : List UInt8) : (mkB l).toList = l := by rw [toList_L, L_mkB]
theorem verCmp_ev (s t : ByteArray) (hs : s.size ≤ 1000000) (ht : t.size ≤ 1000000) : Ev (fun k => version_Cmp.f k s t) (cmpR (splitL (L s)) (splitL (L t))) := by
  have hbad : ∀ (a b c : ByteArray) (p : List ByteArray) (a' b' c' : ByteArray) (p' : List ByteArray), Ev (fun k => version_Cmp.j0 k true a b c p a' b' c' p') (0, 1) := by
    intro a b c p a' b' c' p'
    refine ev_step (fun k => by rw [version_Cmp.j0]) ?_
    exact ev_pos rfl (ev_now rfl)
  unfold version_Cmp.f
  refine ev_bind (Split_ev s hs) (ev_bind (Split_ev t ht) ?_)
  cases hx : splitL (L s) with
  | none => exact ev_neg (by decide) (hbad _ _ _ _ _ _ _ _)
  | some v =>
    cases hy : splitL (L t) with
    | none => exact ev_pos rfl (hbad _ _ _ _ _ _ _ _)
    | some w =>
      refine ev_pos rfl ?_
      have sv := splitL_sizes hx
      have sw := splitL_sizes hy
      rw [L_size] at sv sw
      obtain ⟨_, -, -, nv1, nv2, nv3, -, -⟩ := splitL_some hx
      obtain ⟨_, -, -, nw1, nw2, nw3, -, -⟩ := splitL_some hy
      refine ev_step (fun k => by rw [version_Cmp.j0]) ?_
      refine ev_neg (by simp [verR]) ?_
      simp only [verR, cmpR, mkB_toList]
      refine ev_ite (fun h => ?_) (fun h => ?_)
      · rw [verC_orL v w (by
          intro ⟨e1, e2, e3⟩
          rw [e1, e2, e3] at h
          simp at h)]
        have g1 := numbers_ev (mkB v.a) (mkB w.a) (by rw [mkB_size]; omega) (by rw [mkB_size]; omega)
        have g2 := numbers_ev (mkB v.b) (mkB w.b) (by rw [mkB_size]; omega) (by rw [mkB_size]; omega)
        have g3 := numbers_ev (mkB v.c) (mkB w.c) (by rw [mkB_size]; omega) (by rw [mkB_size]; omega)
        simp only [L_mkB, numbersL, nv1, nv2, nv3, nw1, nw2, nw3, Bool.and_self, if_true] at g1 g2 g3
        exact ev_bind g1 (ev_bind g2 (ev_bind g3 (ev_bind (Or_ev _ (by simp)) (ev_now rfl))))
      · have hc : v.a = w.a ∧ v.b = w.b ∧ v.c = w.c := by
          simpa using h
        rw [verC_pre v w hc]
        have hj1 : ∀ bb : Bool, bb = (v.p.isEmpty || w.p.isEmpty) → Ev (fun k => version_Cmp.j1 k bb (mkB v.a) (mkB v.b) (mkB v.c) (v.p.map mkB) (mkB w.a) (mkB w.b) (mkB w.c) (w.p.map mkB)) (preV v.p w.p, 0) := by
          intro bb hbb
          refine ev_step (fun k => by rw [version_Cmp.j1]) ?_
          rw [Compare_eq, List.length_map, List.length_map]
          unfold preV
          rw [← hbb]
          cases bb with
          | true => exact ev_pos rfl (ev_now rfl)
          | false =>
            refine ev_neg (by decide) ?_
            rw [mn_eq]
            have h := Cmp_loop (v.p.map mkB) (w.p.map mkB) (mkB v.a) (mkB v.b) (mkB v.c) (mkB w.a) (mkB w.b) (mkB w.c) (by rw [List.length_map]; omega) (by rw [List.length_map]; omega) (fun x hx => by
              obtain ⟨y, hy, rfl⟩ := List.mem_map.1 hx
              have := sv.2.2.2.2 y hy
              rw [mkB_size]; omega) (fun x hx => by
              obtain ⟨y, hy, rfl⟩ := List.mem_map.1 hx
              have := sw.2.2.2.2 y hy
              rw [mkB_size]; omega) (min (v.p.map mkB).length (w.p.map mkB).length) 0 (by omega)
            rw [map_L_mkB, map_L_mkB, List.drop_zero, List.drop_zero, List.length_map, List.length_map] at h
            exact h
        refine ev_ite (fun h0 => hj1 _ ?_) (fun h0 => hj1 _ ?_)
        · rw [List.length_map] at h0
          have : v.p = [] := List.eq_nil_of_length_eq_zero (by omega)
          rw [this]; rfl
        · rw [List.length_map] at h0
          have : v.p.isEmpty = false := by
            cases hv : v.p with
            | nil => rw [hv] at h0; exact absurd rfl h0
            | cons => rfl
          rw [this, Bool.false_or, List.length_map]
          cases w.p with
          | nil => rfl
          | cons x l => simp; omega

/-! ### put together -/
def joinV (v : Ver) : List UInt8 := 118 :: ((v.a ++ 46 :: (v.b ++ 46 :: v.c)) ++ (if v.p.isEmpty then [] else 45 :: joinL 46 v.p))
def verOkV (v : Ver) : Bool := numL v.a && numL v.b && numL v.c && v.p.all wordL
theorem cutL_back : ∀ l : List UInt8, (cutL l).1 ++ (if (cutL l).2.2 then 45 :: (cutL l).2.1 else []) = l
  | [] => rfl
  | b :: l => by
    have ih := cutL_back l
    rw [cutL]
    by_cases h : b = 45
    · rw [if_pos h, h]; rfl
    · rw [if_neg h]
      simp only [List.cons_append]
      rw [ih]
theorem num_all {l : List UInt8} (h : numL l = true) : allOf [1] l = true := by
  unfold numL at h
  simp only [Bool.and_eq_true] at h
  exact h.1.2
theorem core_of {l a b c : List UInt8} (h : partsL 46 l = [a, b, c]) : l = a ++ 46 :: (b ++ 46 :: c) := by
  have := joinL_parts 46 l
  rw [h] at this
  exact this.symm
theorem join_of_split {l : List UInt8} {v : Ver} (h : splitL l = some v) : joinV v = l := by
  obtain ⟨t, rfl, hp, -, -, -, -, hq⟩ := splitL_some h
  have hcore := core_of hp
  have hback := cutL_back t
  unfold joinV
  rw [← hcore]
  congr 1
  conv => rhs; rw [← hback]
  cases hf : (cutL t).2.2 with
  | true =>
    rw [hf, if_pos rfl] at hq
    have hne : v.p.isEmpty = false := by
      rw [hq]
      have := partsL_ne 46 (cutL t).2.1
      cases hx : partsL 46 (cutL t).2.1 with
      | nil => exact absurd hx this
      | cons => rfl
    rw [hne, hq, joinL_parts]; rfl
  | false =>
    rw [hf, if_neg (by decide)] at hq
    rw [hq]; rfl
theorem splitL_inj {l m : List UInt8} {v : Ver} (h : splitL l = some v) (h' : splitL m = some v) : l = m := (join_of_split h).symm.trans (join_of_split h')
end Go.Proofs.YtknmfmedklfepaaGreatDoor.Q

/-
  What the references of layers 2 (number) and 3 (version) come to.
-/
namespace Go.Proofs.YtknmfmedklfepaaGreatDoor.Q
open Go.RowKit Go.Proofs.YtknmfmedklfepaaGreatDoor.P Go.Proofs.YtknmfmedklfepaaGreatDoorB Go.Proofs.YtknmfmedklfepaaGreatDoorW.PrintWords Go.Proofs.YtknmfmedklfepaaGreatDoorW.PrintLast Go.Proofs.YtknmfmedklfepaaGreatDoorW.PrintMore
set_option linter.unusedSimpArgs false
set_option linter.unusedVariables false
def dig (c : Int) : Int := if c < 48 then -1 else if c > 57 then -1 else c - 48
theorem digit_eq (c : Int) (h0 : 0 ≤ c) (h1 : c < 256) : graftwoodref02_digit.f c = some (dig c) := by
  unfold graftwoodref02_digit.f dig
  split
  · rfl
  · split
    · rfl
    · rw [w_id (i := c) (by omega) (by omega), w_id (by omega) (by omega)]
theorem cls_one (c : Int) (h0 : 0 ≤ c) : ([1] : List Int).contains (clsOf c) = decide (0 ≤ dig c) := by
  unfold clsOf dig
  rw [Bool.eq_iff_iff, List.contains_iff_mem, List.mem_singleton, decide_eq_true_eq]
  repeat' split
  all_goals omega
theorem refNumMay_loop (s : ByteArray) (hs : (L s).length ≤ 1000000000) (d : Nat) : ∀ i : Nat, i + d = (L s).length → Ev (fun k => graftwoodref02_May.l0 k s i) (allOf [1] ((L s).drop i) && (!(L s).isEmpty && zeroOk (L s))) := by
  have sz := L_size s
  induction d with
  | zero =>
    intro i hi
    refine ev_step (fun k => by rw [graftwoodref02_May.l0]) ?_
    refine ev_neg (by omega) ?_
    rw [List.drop_eq_nil_of_le (by omega)]
    show Ev _ (!(L s).isEmpty && zeroOk (L s))
    cases hL : L s with
    | nil =>
      rw [hL] at sz
      simp only [List.length_nil] at sz
      exact ev_neg (by omega) (ev_neg (by omega) (ev_now rfl))
    | cons b l =>
      rw [hL] at sz
      simp only [List.length_cons] at sz
      have h0 : bt s 0 = (b.toNat : Int) := by
        have := bt_L s 0 (by rw [hL]; simp)
        simpa [hL] using this
      have hb48 : ((b.toNat : Int) = 48) ↔ b = 48 := ⟨fun e => UInt8.toNat_inj.1 (by have : (48 : UInt8).toNat = 48 := rfl; omega), fun e => by rw [e]; rfl⟩
      unfold zeroOk
      cases l with
      | nil =>
        simp only [List.length_nil] at sz
        exact ev_pos (by omega) (ev_now (by simp))
      | cons c l =>
        simp only [List.length_cons] at sz
        refine ev_neg (by omega) (ev_pos (by omega) (ev_pos (by omega) (ev_now ?_)))
        rw [h0]
        rw [Bool.eq_iff_iff, bne_iff_ne]
        simp [hb48]
  | succ d ih =>
    intro i hi
    have hil : i < (L s).length := by omega
    have hb := (L s)[i].toNat_lt
    refine ev_step (fun k => by rw [graftwoodref02_May.l0]) ?_
    refine ev_pos (by omega) (ev_pos (by omega) ?_)
    rw [bt_L s i hil, digit_eq _ (by omega) (by omega), w_succ i (by omega), List.drop_eq_getElem_cons hil]
    refine ev_some ?_
    have hc : allOf [1] ((L s)[i] :: (L s).drop (i + 1)) = (decide (0 ≤ dig ((L s)[i].toNat : Int)) && allOf [1] ((L s).drop (i + 1))) := by
      unfold allOf
      rw [List.all_cons, cls_one _ (by omega)]
    rw [hc]
    refine ev_ite (fun h => ?_) (fun h => ?_)
    · rw [decide_eq_false (by omega)]; exact ev_now rfl
    · rw [decide_eq_true (by omega), Bool.true_and]
      exact ih (i + 1) (by omega)
theorem refNumMay_ev (s : ByteArray) (hs : s.size ≤ 1000000000) : Ev (fun k => graftwoodref02_May.f k s) (numL (L s)) := by
  unfold graftwoodref02_May.f
  have h := refNumMay_loop s (by rw [L_size]; exact hs) (L s).length 0 (by omega)
  rw [List.drop_zero] at h
  have e : (allOf [1] (L s) && (!(L s).isEmpty && zeroOk (L s))) = numL (L s) := by
    unfold numL
    cases allOf [1] (L s) <;> cases (L s).isEmpty <;> cases zeroOk (L s) <;> rfl
  rw [e] at h
  exact h

/-! ### the reference's Cmp of numbers -/
theorem at_in (s : ByteArray) (j t : Nat) (hs : (L s).length ≤ 1000000000) (h : t + j + 1 = (L s).length) : graftwoodref02_at.f s j = some (dig ((L s)[t]'(by omega)).toNat) := by
  have sz := L_size s
  have hb := ((L s)[t]'(by omega)).toNat_lt
  unfold graftwoodref02_at.f
  have hw : wrap64 (wrap64 ((s.size : Int) - 1) - (j : Int)) = (t : Int) := by
    rw [w_id (i := (s.size : Int) - 1) (by omega) (by omega), w_id (by omega) (by omega)]; omega
  rw [if_neg (by omega), hw, if_pos (by omega), if_pos (by omega), bt_L s t (by omega), digit_eq _ (by omega) (by omega)]
  rfl
theorem at_out (s : ByteArray) (j : Nat) (h : (L s).length ≤ j) : graftwoodref02_at.f s j = some 0 := by
  have sz := L_size s
  unfold graftwoodref02_at.f
  rw [if_pos (by omega)]
theorem num_dig {l : List UInt8} (h : numL l = true) (b : UInt8) (hb : b ∈ l) : 48 ≤ b.toNat ∧ b.toNat ≤ 57 := by
  have h1 := List.all_eq_true.1 (num_all h) b hb
  rw [cls_one _ (by omega), decide_eq_true_eq] at h1
  unfold dig at h1
  split at h1
  · omega
  · split at h1 <;> omega
theorem refNumCmp_loop (a b : ByteArray) (ha : numL (L a) = true) (hb : numL (L b) = true) (hs : (L a).length ≤ 1000000000) (he : (L a).length = (L b).length) (d : Nat) : ∀ t : Nat, t + d = (L a).length → Ev (fun k => graftwoodref02_Cmp.l0 k a b ((d : Int) - 1)) (cmpL ((L a).drop t) ((L b).drop t)) := by
  induction d with
  | zero =>
    intro t ht
    refine ev_step (fun k => by rw [graftwoodref02_Cmp.l0]) ?_
    refine ev_neg (by omega) (ev_now ?_)
    rw [List.drop_eq_nil_of_le (by omega), List.drop_eq_nil_of_le (by omega)]
    exact (cmpL_self []).symm
  | succ d ih =>
    intro t ht
    have hta : t < (L a).length := by omega
    have htb : t < (L b).length := by omega
    obtain ⟨x1, x2⟩ := num_dig ha _ (List.getElem_mem hta)
    obtain ⟨y1, y2⟩ := num_dig hb _ (List.getElem_mem htb)
    have e : ((d + 1 : Nat) : Int) - 1 = (d : Int) := by omega
    rw [e]
    refine ev_step (fun k => by rw [graftwoodref02_Cmp.l0]) ?_
    refine ev_pos (by omega) ?_
    rw [at_in a d t hs (by omega), at_in b d t (by omega) (by omega), w_id (by omega) (by omega)]
    simp only [Option.bind_some]
    have dx : dig ((L a)[t].toNat : Int) = (L a)[t].toNat - 48 := by unfold dig; rw [if_neg (by omega), if_neg (by omega)]
    have dy : dig ((L b)[t].toNat : Int) = (L b)[t].toNat - 48 := by unfold dig; rw [if_neg (by omega), if_neg (by omega)]
    rw [dx, dy, List.drop_eq_getElem_cons hta, List.drop_eq_getElem_cons htb, cmpL_cons_cons]
    refine ev_ite (fun h => ?_) (fun h => ?_)
    · rw [if_pos (UInt8.lt_iff_toNat_lt.2 (by omega))]; exact ev_now rfl
    · rw [if_neg (fun h' => h (by have := UInt8.lt_iff_toNat_lt.1 h'; omega))]
      refine ev_ite (fun h2 => ?_) (fun h2 => ?_)
      · rw [if_pos (UInt8.lt_iff_toNat_lt.2 (by omega))]; exact ev_now rfl
      · rw [if_neg (fun h' => h2 (by have := UInt8.lt_iff_toNat_lt.1 h'; omega))]
        exact ih (t + 1) (by omega)
theorem mx_eq (a b : Nat) : mx (a : Int) (b : Int) = ((max a b : Nat) : Int) := by unfold mx; split <;> omega
theorem num_head : ∀ {l : List UInt8} (h : numL l = true) (h2 : 2 ≤ l.length), 1 ≤ dig ((l[0]'(by omega)).toNat : Int)
  | [], _, h2 => absurd h2 (by decide)
  | [_], _, h2 => absurd h2 (by simp)
  | b :: c :: l, h, _ => by
    obtain ⟨x1, x2⟩ := num_dig h b (by simp)
    unfold numL at h
    simp only [Bool.and_eq_true] at h
    have hz := h.2
    simp only [zeroOk, List.isEmpty_cons, Bool.or_false, Bool.not_eq_true', beq_eq_false_iff_ne] at hz
    have : b.toNat ≠ 48 := fun e => hz (UInt8.toNat_inj.1 (by rw [e]; rfl))
    show 1 ≤ dig (b.toNat : Int)
    unfold dig
    rw [if_neg (by omega), if_neg (by omega)]
    omega
theorem num_ne {l : List UInt8} (h : numL l = true) : 1 ≤ l.length := by
  unfold numL at h
  simp only [Bool.and_eq_true, Bool.not_eq_true'] at h
  cases l with
  | nil => simp at h
  | cons b l => simp
theorem refNumCmp_ev (a b : ByteArray) (ha : numL (L a) = true) (hb : numL (L b) = true) (hs : a.size ≤ 1000000000) (ht : b.size ≤ 1000000000) : Ev (fun k => graftwoodref02_Cmp.f k a b) (numC (L a) (L b)) := by
  have sa := L_size a
  have sb := L_size b
  have na := num_ne ha
  have nb := num_ne hb
  unfold graftwoodref02_Cmp.f
  rw [← sa, ← sb, mx_eq, w_id (by omega) (by omega)]
  unfold numC
  have z := cmpI_zero ((L a).length : Int) (L b).length
  rcases Nat.lt_trichotomy (L a).length (L b).length with h | h | h
  · rw [if_neg (fun e => by have := z.1 e; omega)]
    have e : ((max (L a).length (L b).length : Nat) : Int) - 1 = (((L b).length - 1 : Nat) : Int) := by omega
    rw [e]
    refine ev_step (fun k => by rw [graftwoodref02_Cmp.l0]) ?_
    refine ev_pos (by omega) ?_
    rw [at_out a _ (by omega), at_in b ((L b).length - 1) 0 (by omega) (by omega)]
    simp only [Option.bind_some]
    have hd := num_head hb (by omega)
    refine ev_pos (by omega) (ev_now ?_)
    unfold cmpI
    rw [if_pos (by omega)]
  · rw [if_pos (z.2 (by omega))]
    have e : ((max (L a).length (L b).length : Nat) : Int) - 1 = ((L a).length : Int) - 1 := by omega
    rw [e]
    have hh := refNumCmp_loop a b ha hb (by omega) h (L a).length 0 (by omega)
    rw [List.drop_zero, List.drop_zero] at hh
    exact hh
  · rw [if_neg (fun e => by have := z.1 e; omega)]
    have e : ((max (L a).length (L b).length : Nat) : Int) - 1 = (((L a).length - 1 : Nat) : Int) := by omega
    rw [e]
    refine ev_step (fun k => by rw [graftwoodref02_Cmp.l0]) ?_
    refine ev_pos (by omega) ?_
    rw [at_out b _ (by omega), at_in a ((L a).length - 1) 0 (by omega) (by omega)]
    simp only [Option.bind_some]
    have hd := num_head ha (by omega)
    refine ev_neg (by omega) (ev_pos (by omega) (ev_now ?_))
    unfold cmpI
    rw [if_neg (by omega), if_pos (by omega)]
/-! ### the reference's words -/
def wordB (b : UInt8) : Bool := clsOf b.toNat == 1 || clsOf b.toNat == 2 || b == 45
theorem wordB_eq (b : UInt8) : wordB b = (!([46, 95, 126] : List UInt8).contains b && ([1, 2, 3] : List Int).contains (clsOf b.toNat)) := by
  have h : ∀ n : Fin 256, wordB (UInt8.ofNat n.val) = (!([46, 95, 126] : List UInt8).contains (UInt8.ofNat n.val) && ([1, 2, 3] : List Int).contains (clsOf (UInt8.ofNat n.val).toNat)) := by decide +kernel
  have := h ⟨b.toNat, b.toNat_lt⟩
  simpa using this
theorem words_all (l : List UInt8) : l.all wordB = (!badL l && allOf [1, 2, 3] l) := by
  induction l with
  | nil => rfl
  | cons b l ih =>
    unfold badL allOf at ih ⊢
    rw [List.all_cons, List.any_cons, List.all_cons, ih, wordB_eq]
    cases ([46, 95, 126] : List UInt8).contains b <;> cases ([1, 2, 3] : List Int).contains (clsOf b.toNat) <;> cases (l.any fun b => ([46, 95, 126] : List UInt8).contains b) <;> simp
theorem refWord_loop (s : ByteArray) (hs : (L s).length ≤ 1000000000) (d : Nat) : ∀ (i : Nat) (g : Bool), i + d = (L s).length → Ev (fun k => graftwoodref03_Word.l0 k s g i) (((L s).drop i).all wordB && (!(L s).isEmpty && (if g && allOf [1] ((L s).drop i) then numL (L s) else true))) := by
  have sz := L_size s
  induction d with
  | zero =>
    intro i g hi
    refine ev_step (fun k => by rw [graftwoodref03_Word.l0]) ?_
    refine ev_neg (by omega) ?_
    rw [List.drop_eq_nil_of_le (by omega)]
    have hall : allOf [1] ([] : List UInt8) = true := rfl
    rw [hall, List.all_nil, Bool.true_and, Bool.and_true]
    refine ev_ite (fun h => ?_) (fun h => ?_)
    · have hne : (L s).isEmpty = false := by
        cases hL : L s with
        | nil => rw [hL] at sz; simp only [List.length_nil] at sz; omega
        | cons => rfl
      rw [hne]
      cases g with
      | true => exact ev_pos rfl (ev_last (refNumMay_ev s (by omega)))
      | false => exact ev_neg (by decide) (ev_now rfl)
    · have hne : (L s).isEmpty = true := by
        cases hL : L s with
        | nil => rfl
        | cons b l => rw [hL] at sz; simp only [List.length_cons] at sz; omega
      rw [hne]
      exact ev_now rfl
  | succ d ih =>
    intro i g hi
    have hil : i < (L s).length := by omega
    have hb := (L s)[i].toNat_lt
    refine ev_step (fun k => by rw [graftwoodref03_Word.l0]) ?_
    refine ev_pos (by omega) (ev_pos (by omega) ?_)
    rw [bt_L s i hil, w_succ i (by omega), List.drop_eq_getElem_cons hil, List.all_cons]
    refine ev_bind (refClass_ev _ (by omega) (by omega)) ?_
    have h45 : (((L s)[i].toNat : Int) = 45) ↔ (L s)[i] = 45 := ⟨fun e => UInt8.toNat_inj.1 (by have : (45 : UInt8).toNat = 45 := rfl; omega), fun e => by rw [e]; rfl⟩
    have hc : allOf [1] ((L s)[i] :: (L s).drop (i + 1)) = ((clsOf (L s)[i].toNat == 1) && allOf [1] ((L s).drop (i + 1))) := by
      unfold allOf
      rw [List.all_cons]
      congr 1
      rw [Bool.eq_iff_iff, List.contains_iff_mem, List.mem_singleton, beq_iff_eq]
    rw [hc]
    unfold wordB
    by_cases h1 : clsOf (L s)[i].toNat = 1
    · have e1 : (clsOf (L s)[i].toNat == 1) = true := beq_iff_eq.2 h1
      rw [e1]
      simp only [Bool.true_or, Bool.true_and]
      exact ev_pos h1 (ih (i + 1) g (by omega))
    · have e1 : (clsOf (L s)[i].toNat == 1) = false := beq_eq_false_iff_ne.2 h1
      rw [e1]
      refine ev_neg h1 ?_
      have hf := ih (i + 1) false (by omega)
      simp only [Bool.false_and, Bool.and_false, Bool.false_or, Bool.false_eq_true, if_false] at hf ⊢
      by_cases h2 : clsOf (L s)[i].toNat = 2
      · have e2 : (clsOf (L s)[i].toNat == 2) = true := beq_iff_eq.2 h2
        rw [e2, Bool.true_or, Bool.true_and]
        exact ev_pos h2 hf
      · have e2 : (clsOf (L s)[i].toNat == 2) = false := beq_eq_false_iff_ne.2 h2
        rw [e2, Bool.false_or]
        refine ev_neg h2 ?_
        by_cases h3 : (L s)[i] = 45
        · have e3 : ((L s)[i] == 45) = true := beq_iff_eq.2 h3
          rw [e3, Bool.true_and]
          exact ev_pos (h45.2 h3) hf
        · have e3 : ((L s)[i] == 45) = false := beq_eq_false_iff_ne.2 h3
          rw [e3, Bool.false_and]
          exact ev_neg (fun e => h3 (h45.1 e)) (ev_now rfl)
theorem refWord_ev (s : ByteArray) (hs : s.size ≤ 1000000000) : Ev (fun k => graftwoodref03_Word.f k s) (wordL (L s)) := by
  unfold graftwoodref03_Word.f
  have h := refWord_loop s (by rw [L_size]; exact hs) (L s).length 0 true (by omega)
  rw [List.drop_zero, words_all] at h
  have e : (!badL (L s) && allOf [1, 2, 3] (L s) && (!(L s).isEmpty && (if true && allOf [1] (L s) then numL (L s) else true))) = wordL (L s) := by
    unfold wordL
    have hn := @num_all (L s)
    cases h1 : allOf [1] (L s) <;> cases h2 : numL (L s) <;> cases badL (L s) <;> cases allOf [1, 2, 3] (L s) <;> cases (L s).isEmpty <;> first | rfl | (rw [h2] at hn; have := hn rfl; rw [h1] at this; cases this)
  rw [e] at h
  exact h
/-! ### the reference's Split -/
def fd : List UInt8 → Nat
  | [] => 0
  | b :: l => if b = 45 then 0 else fd l + 1
theorem fd_cut : ∀ l : List UInt8, fd l ≤ l.length ∧ cutL l = (l.take (fd l), l.drop (fd l + 1), decide (fd l < l.length))
  | [] => ⟨Nat.le_refl _, rfl⟩
  | b :: l => by
    obtain ⟨h1, h2⟩ := fd_cut l
    rw [fd, cutL]
    by_cases h : b = 45
    · rw [if_pos h, if_pos h]; exact ⟨by simp, by simp⟩
    · rw [if_neg h, if_neg h, h2]
      refine ⟨by simp only [List.length_cons]; omega, ?_⟩
      simp only [List.take_succ_cons, List.drop_succ_cons, List.length_cons, Nat.add_lt_add_iff_right]
def verB (o : Option Ver) : ByteArray × ByteArray × ByteArray × List ByteArray × Bool := match o with
  | some v => (mkB v.a, mkB v.b, mkB v.c, v.p.map mkB, true)
  | none => (⟨#[]⟩, ⟨#[]⟩, ⟨#[]⟩, [], false)
theorem refSplit_words (a b c : ByteArray) (p : List ByteArray) (hp : p.length ≤ 1000000001) (hm : ∀ s, s ∈ p → s.size ≤ 1000000000) (d : Nat) : ∀ i : Nat, i + d = p.length → Ev (fun k => graftwoodref03_Split.l1 k i a b c p) (if (p.drop i).all fun s => wordL (L s) then (a, b, c, p, true) else (⟨#[]⟩, ⟨#[]⟩, ⟨#[]⟩, [], false)) := by
  induction d with
  | zero =>
    intro i hi
    refine ev_step (fun k => by rw [graftwoodref03_Split.l1]) ?_
    refine ev_neg (by omega) (ev_now ?_)
    rw [List.drop_eq_nil_of_le (by omega)]; rfl
  | succ d ih =>
    intro i hi
    have hil : i < p.length := by omega
    refine ev_step (fun k => by rw [graftwoodref03_Split.l1]) ?_
    refine ev_pos (by omega) (ev_pos (by omega) ?_)
    rw [rdOf_at _ p i hil, w_succ i (by omega), List.drop_eq_getElem_cons hil, List.all_cons]
    refine ev_bind (refWord_ev _ (hm _ (List.getElem_mem _))) ?_
    refine ev_ite (fun h => ?_) (fun h => ?_)
    · rw [h, Bool.true_and]; exact ih (i + 1) (by omega)
    · have h' : wordL (L p[i]) = false := by simpa using h
      rw [h', Bool.false_and]; exact ev_now rfl
theorem refSplit_scan (s : ByteArray) (hs : (L s).length ≤ 1000000) (a b c : ByteArray) (r : ByteArray × ByteArray × ByteArray × List ByteArray × Bool) (hK : Ev (fun k => graftwoodref03_Split.l0 k s (fd (L s)) (-1) a b c) r) (d : Nat) : ∀ i : Nat, i = d → i ≤ (L s).length →
    Ev (fun k => graftwoodref03_Split.l0 k s ((i + fd ((L s).drop i) : Nat) : Int) ((i : Int) - 1) a b c) r := by
  have sz := L_size s
  induction d with
  | zero =>
    intro i hi _
    subst hi
    rw [List.drop_zero, Nat.zero_add]
    exact hK
  | succ d ih =>
    intro i hi hil
    have hlt : d < (L s).length := by omega
    have e : (i : Int) - 1 = (d : Int) := by omega
    rw [e]
    refine ev_step (fun k => by rw [graftwoodref03_Split.l0]) ?_
    refine ev_pos (by omega) (ev_pos (by omega) (ev_pos (by omega) ?_))
    rw [bt_L s d hlt, w_id (by omega) (by omega)]
    have h45 : (((L s)[d].toNat : Int) = 45) ↔ (L s)[d] = 45 := ⟨fun e => UInt8.toNat_inj.1 (by have : (45 : UInt8).toNat = 45 := rfl; omega), fun e => by rw [e]; rfl⟩
    have hn := ih d rfl (by omega)
    rw [List.drop_eq_getElem_cons hlt, fd] at hn
    refine ev_ite (fun h => ?_) (fun h => ?_)
    · rw [if_pos (h45.1 h), Nat.add_zero] at hn
      exact hn
    · rw [if_neg (fun x => h (h45.2 x))] at hn
      have e2 : d + (fd ((L s).drop (d + 1)) + 1) = i + fd ((L s).drop i) := by rw [hi]; omega
      rw [e2] at hn
      exact hn
theorem refSplit_ev (s : ByteArray) (hs : s.size ≤ 1000000) : Ev (fun k => graftwoodref03_Split.f k s) (verB (splitL (L s))) := by
  have sz := L_size s
  have hbad : Ev (fun k => graftwoodref03_Split.j0 k s true (⟨#[]⟩ : ByteArray) (⟨#[]⟩ : ByteArray) (⟨#[]⟩ : ByteArray)) (verB none) := by
    refine ev_step (fun k => by rw [graftwoodref03_Split.j0]) ?_
    exact ev_pos rfl (ev_now rfl)
  unfold graftwoodref03_Split.f
  cases hL : L s with
  | nil =>
    rw [hL] at sz
    simp only [List.length_nil] at sz
    exact ev_pos (by omega) hbad
  | cons v t =>
    have sz2 := sz
    rw [hL] at sz2
    simp only [List.length_cons] at sz2
    refine ev_neg (by omega) (ev_pos (by omega) ?_)
    have h0 : bt s 0 = (v.toNat : Int) := by
      have := bt_L s 0 (by rw [hL]; simp)
      simpa [hL] using this
    have h118 : ((v.toNat : Int) = 118) ↔ v = 118 := ⟨fun e => UInt8.toNat_inj.1 (by have : (118 : UInt8).toNat = 118 := rfl; omega), fun e => by rw [e]; rfl⟩
    rw [h0, splitL_cons]
    by_cases hv : v = 118
    case neg =>
      have : ((v.toNat : Int) != 118) = true := bne_iff_ne.2 (fun e => hv (h118.1 e))
      rw [this, if_neg hv]
      exact hbad
    have hv2 : ((v.toNat : Int) != 118) = false := by rw [h118.2 hv]; rfl
    rw [hv2, if_pos hv]
    refine ev_step (fun k => by rw [graftwoodref03_Split.j0]) ?_
    refine ev_neg (by decide) ?_
    rw [w_id (by omega) (by omega)]
    obtain ⟨hf1, hf2⟩ := fd_cut t
    have hfd : fd (L s) = fd t + 1 := by rw [hL, fd, if_neg (by rw [hv]; decide)]
    have hscan := refSplit_scan s (by omega) (⟨#[]⟩ : ByteArray) (⟨#[]⟩ : ByteArray) (⟨#[]⟩ : ByteArray) (verB (splitC (cutL t).1 (cutL t).2.1 (cutL t).2.2)) ?_ s.size s.size rfl (by omega)
    · rw [show (L s).drop s.size = [] from List.drop_eq_nil_of_le (by omega)] at hscan
      exact hscan
    -- behind the scan
    rw [hfd]
    refine ev_step (fun k => by rw [graftwoodref03_Split.l0]) ?_
    refine ev_neg (by decide) (ev_pos (by omega) (ev_pos (by omega) ?_))
    have hcore : s.extract 1 ((fd t + 1 : Nat) : Int).toNat = mkB (t.take (fd t)) := by
      refine L_inj ?_
      rw [L_extract, hL, L_mkB, Int.toNat_natCast]; rfl
    rw [hcore, hf2]
    simp only
    refine ev_bind (refParts_ev _ 46 (by decide) (by decide) (by rw [mkB_size, List.length_take]; omega)) ?_
    have h46 : (46 : Int).toNat.toUInt8 = 46 := rfl
    rw [h46, partsB_mk]
    have hple := part_le 46 (t.take (fd t))
    rw [List.length_take] at hple
    have hbad2 : ∀ (x : Int) (y : List ByteArray), Ev (fun k => graftwoodref03_Split.j2 k s x y true (⟨#[]⟩ : ByteArray) (⟨#[]⟩ : ByteArray) (⟨#[]⟩ : ByteArray)) (verB none) := by
      intro x y
      refine ev_step (fun k => by rw [graftwoodref03_Split.j2]) ?_
      exact ev_pos rfl (ev_now rfl)
    unfold splitC coreL
    rcases hpl : partsL 46 (t.take (fd t)) with _ | ⟨a, _ | ⟨b, _ | ⟨c, _ | ⟨d, r⟩⟩⟩⟩
    · exact ev_neg (by decide) (hbad2 _ _)
    · exact ev_neg (by simp) (hbad2 _ _)
    · exact ev_neg (by simp) (hbad2 _ _)
    · rw [hpl] at hple
      have la := hple a (by simp)
      have lb := hple b (by simp)
      have lc := hple c (by simp)
      refine ev_pos rfl (ev_pos (by simp) ?_)
      have r0 : rdOf ByteArray.empty (List.map mkB [a, b, c]) 0 = mkB a := rfl
      have r1 : rdOf ByteArray.empty (List.map mkB [a, b, c]) 1 = mkB b := rfl
      have r2 : rdOf ByteArray.empty (List.map mkB [a, b, c]) 2 = mkB c := rfl
      have ea := refNumMay_ev (mkB a) (by rw [mkB_size]; omega)
      have eb := refNumMay_ev (mkB b) (by rw [mkB_size]; omega)
      have ec := refNumMay_ev (mkB c) (by rw [mkB_size]; omega)
      rw [L_mkB] at ea eb ec
      rw [r0, r1, r2]
      simp only
      obtain ⟨na, hna⟩ : ∃ x, numL a = x := ⟨_, rfl⟩
      obtain ⟨nb, hnb⟩ : ∃ x, numL b = x := ⟨_, rfl⟩
      obtain ⟨nc, hnc⟩ : ∃ x, numL c = x := ⟨_, rfl⟩
      rw [hna] at ea
      rw [hnb] at eb
      rw [hnc] at ec
      simp only [hna, hnb, hnc]
      refine ev_bind ea ?_
      cases na with
      | false => exact ev_neg (by decide) (hbad2 _ _)
      | true =>
        refine ev_pos rfl (ev_pos (by simp) (ev_bind eb ?_))
        cases nb with
        | false => exact ev_neg (by decide) (hbad2 _ _)
        | true =>
          refine ev_pos rfl (ev_pos (by simp) (ev_bind ec ?_))
          cases nc with
          | false => exact hbad2 _ _
          | true =>
            refine ev_step (fun k => by rw [graftwoodref03_Split.j2]) ?_
            refine ev_neg (by decide) (ev_pos (by simp) (ev_pos (by simp) (ev_pos (by simp) ?_)))
            rw [r0, r1, r2]
            refine ev_ite (fun h => ?_) (fun h => ?_)
            · have hd : decide (fd t < t.length) = false := decide_eq_false (by omega)
              rw [hd]
              exact ev_now rfl
            · have hd : decide (fd t < t.length) = true := decide_eq_true (by omega)
              rw [hd, w_id (by omega) (by omega)]
              refine ev_pos (by omega) (ev_pos (by omega) ?_)
              have hpre : s.extract (((fd t + 1 : Nat) : Int) + 1).toNat s.size = mkB (t.drop (fd t + 1)) := by
                refine L_inj ?_
                have e : (((fd t + 1 : Nat) : Int) + 1).toNat = fd t + 1 + 1 := by omega
                rw [L_extract, hL, L_mkB, e, List.drop_succ_cons]
                exact List.take_of_length_le (by rw [List.length_drop]; omega)
              rw [hpre]
              refine ev_bind (refParts_ev _ 46 (by decide) (by decide) (by rw [mkB_size, List.length_drop]; omega)) ?_
              rw [h46, partsB_mk]
              have hpl2 := (partsL_length 46 (t.drop (fd t + 1))).1
              have hp2 := part_le 46 (t.drop (fd t + 1))
              rw [List.length_drop] at hpl2 hp2
              have hh := refSplit_words (mkB a) (mkB b) (mkB c) ((partsL 46 (t.drop (fd t + 1))).map mkB) (by rw [List.length_map]; omega) (fun x hx => by
                obtain ⟨y, hy, rfl⟩ := List.mem_map.1 hx
                have := hp2 y hy
                rw [mkB_size]; omega) ((partsL 46 (t.drop (fd t + 1))).map mkB).length 0 (by omega)
              have he : (((partsL 46 (t.drop (fd t + 1))).map mkB).drop 0).all (fun s => wordL (L s)) = (partsL 46 (t.drop (fd t + 1))).all wordL := by
                rw [List.drop_zero, List.all_map]; rfl
              rw [he] at hh
              simp only [Bool.and_self, if_true]
              revert hh
              cases (partsL 46 (t.drop (fd t + 1))).all wordL <;> exact fun h => h
    · exact ev_neg (by simp; omega) (hbad2 _ _)
theorem refVerMay_ev (s : ByteArray) (hs : s.size ≤ 1000000) : Ev (fun k => graftwoodref03_May.f k s) (verOk (L s)) := by
  unfold graftwoodref03_May.f
  refine ev_bind (refSplit_ev s hs) (ev_now ?_)
  unfold verOk
  cases splitL (L s) <;> rfl
/-! ### the reference's Cmp -/
theorem refWords_ev (a b : ByteArray) (ha : a.size ≤ 1000000000) (hb : b.size ≤ 1000000000) : Ev (fun k => graftwoodref03_words.f k a b) (wordsL (L a) (L b)) := by
  unfold graftwoodref03_words.f
  refine ev_bind (refNumMay_ev a ha) (ev_bind (refNumMay_ev b hb) ?_)
  unfold wordsL
  cases h1 : numL (L a) with
  | false =>
    refine ev_neg (by decide) ?_
    refine ev_step (fun k => by rw [graftwoodref03_words.j0]) ?_
    refine ev_neg (by decide) (ev_neg (by decide) ?_)
    cases h2 : numL (L b) with
    | false => exact ev_neg (by decide) (ev_last (refCmp_ev a b ha))
    | true => exact ev_pos rfl (ev_now rfl)
  | true =>
    refine ev_pos rfl ?_
    refine ev_step (fun k => by rw [graftwoodref03_words.j0]) ?_
    cases h2 : numL (L b) with
    | false => exact ev_neg (by decide) (ev_pos rfl (ev_now rfl))
    | true => exact ev_pos rfl (ev_last (refNumCmp_ev a b h1 h2 ha hb))
theorem refVerCmp_loop (x y : List ByteArray) (a b c a' b' c' : ByteArray) (hx : x.length ≤ 1000000001) (hy : y.length ≤ 1000000001) (hmx : ∀ s, s ∈ x → s.size ≤ 1000000000) (hmy : ∀ s, s ∈ y → s.size ≤ 1000000000) (d : Nat) : ∀ i : Nat, i + d = min x.length y.length →
    Ev (fun k => graftwoodref03_Cmp.l0 k x.length y.length i a b c x a' b' c' y) (listC wordsL ((x.map L).drop i) ((y.map L).drop i)) := by
  have hxl : (x.map L).length = x.length := List.length_map _
  have hyl : (y.map L).length = y.length := List.length_map _
  induction d with
  | zero =>
    intro i hi
    have hj : Ev (fun k => graftwoodref03_Cmp.j2 k x.length y.length i false a b c x a' b' c' y) (listC wordsL ((x.map L).drop i) ((y.map L).drop i)) := by
      refine ev_step (fun k => by rw [graftwoodref03_Cmp.j2]) ?_
      refine ev_neg (by decide) ?_
      rcases Nat.lt_trichotomy x.length y.length with h | h | h
      · rw [show (x.map L).drop i = [] from List.drop_eq_nil_of_le (by omega), List.drop_eq_getElem_cons (by omega)]
        exact ev_pos (by omega) (ev_now rfl)
      · rw [show (x.map L).drop i = [] from List.drop_eq_nil_of_le (by omega), show (y.map L).drop i = [] from List.drop_eq_nil_of_le (by omega)]
        exact ev_neg (by omega) (ev_neg (by omega) (ev_now rfl))
      · rw [show (y.map L).drop i = [] from List.drop_eq_nil_of_le (by omega), List.drop_eq_getElem_cons (by omega)]
        exact ev_neg (by omega) (ev_pos (by omega) (ev_now rfl))
    refine ev_step (fun k => by rw [graftwoodref03_Cmp.l0]) ?_
    refine ev_ite (fun h => ?_) (fun _ => hj)
    rw [decide_eq_false (by omega)]
    exact hj
  | succ d ih =>
    intro i hi
    have hix : i < x.length := by omega
    have hiy : i < y.length := by omega
    refine ev_step (fun k => by rw [graftwoodref03_Cmp.l0]) ?_
    refine ev_pos (by omega) ?_
    rw [decide_eq_true (show (i : Int) < y.length by omega)]
    refine ev_step (fun k => by rw [graftwoodref03_Cmp.j2]) ?_
    refine ev_pos rfl (ev_pos (by omega) (ev_pos (by omega) (ev_pos (by omega) ?_)))
    rw [rdOf_at _ x i hix, rdOf_at _ y i hiy, w_succ i (by omega), List.drop_eq_getElem_cons (l := x.map L) (by omega), List.drop_eq_getElem_cons (l := y.map L) (by omega), List.getElem_map, List.getElem_map, listC]
    refine ev_bind (refWords_ev _ _ (hmx _ (List.getElem_mem _)) (hmy _ (List.getElem_mem _))) ?_
    refine ev_ite (fun h => ?_) (fun h => ?_)
    · rw [if_pos h]; exact ih (i + 1) (by omega)
    · rw [if_neg h]; exact ev_now rfl
theorem refVerCmp_ev (s t : ByteArray) (hs : s.size ≤ 1000000) (ht : t.size ≤ 1000000) (v w : Ver) (hv : splitL (L s) = some v) (hw : splitL (L t) = some w) : Ev (fun k => graftwoodref03_Cmp.f k s t) (verC v w) := by
  have sv := splitL_sizes hv
  have sw := splitL_sizes hw
  rw [L_size] at sv sw
  obtain ⟨_, -, -, nv1, nv2, nv3, -, -⟩ := splitL_some hv
  obtain ⟨_, -, -, nw1, nw2, nw3, -, -⟩ := splitL_some hw
  have e1 := refSplit_ev s hs
  have e2 := refSplit_ev t ht
  rw [hv] at e1
  rw [hw] at e2
  have g1 := refNumCmp_ev (mkB v.a) (mkB w.a) nv1 nw1 (by rw [mkB_size]; omega) (by rw [mkB_size]; omega)
  have g2 := refNumCmp_ev (mkB v.b) (mkB w.b) nv2 nw2 (by rw [mkB_size]; omega) (by rw [mkB_size]; omega)
  have g3 := refNumCmp_ev (mkB v.c) (mkB w.c) nv3 nw3 (by rw [mkB_size]; omega) (by rw [mkB_size]; omega)
  rw [L_mkB, L_mkB] at g1 g2 g3
  unfold graftwoodref03_Cmp.f
  rw [verC_eq]
  refine ev_bind e1 (ev_bind e2 ?_)
  simp only [verB]
  refine ev_bind g1 ?_
  refine ev_ite (fun h1 => ?_) (fun h1 => by rw [if_neg h1]; exact ev_now rfl)
  rw [if_pos h1]
  refine ev_bind g2 ?_
  refine ev_ite (fun h2 => ?_) (fun h2 => by rw [if_neg h2]; exact ev_now rfl)
  rw [if_pos h2]
  refine ev_bind g3 ?_
  refine ev_ite (fun h3 => ?_) (fun h3 => by rw [if_neg h3]; exact ev_now rfl)
  rw [if_pos h3]
  have hj : ∀ bb : Bool, bb = (v.p.isEmpty && w.p.isEmpty) → Ev (fun k => graftwoodref03_Cmp.j0 k (v.p.map mkB).length (w.p.map mkB).length bb (mkB v.a) (mkB v.b) (mkB v.c) (v.p.map mkB) (mkB w.a) (mkB w.b) (mkB w.c) (w.p.map mkB)) (preV v.p w.p) := by
    intro bb hbb
    refine ev_step (fun k => by rw [graftwoodref03_Cmp.j0]) ?_
    rw [List.length_map, List.length_map]
    subst hbb
    cases hvp : v.p with
    | nil =>
      cases hwp : w.p with
      | nil => exact ev_pos rfl (ev_now rfl)
      | cons y q => exact ev_neg (by simp) (ev_pos rfl (ev_now (by unfold preV cmpI; rw [if_pos (by simp), if_neg (by simp only [List.length_cons, List.length_nil]; omega), if_pos (by simp only [List.length_cons, List.length_nil]; omega)])))
    | cons x p =>
      cases hwp : w.p with
      | nil => exact ev_neg (by simp) (ev_neg (by simp only [List.length_cons]; omega) (ev_pos rfl (ev_now (by unfold preV cmpI; rw [if_pos (by simp), if_pos (by simp only [List.length_cons, List.length_nil]; omega)]))))
      | cons y q =>
        refine ev_neg (by simp) (ev_neg (by simp only [List.length_cons]; omega) (ev_neg (by simp only [List.length_cons]; omega) ?_))
        have h := refVerCmp_loop (v.p.map mkB) (w.p.map mkB) (mkB v.a) (mkB v.b) (mkB v.c) (mkB w.a) (mkB w.b) (mkB w.c) (by rw [List.length_map]; omega) (by rw [List.length_map]; omega) (fun x hx => by
          obtain ⟨y, hy, rfl⟩ := List.mem_map.1 hx
          have := sv.2.2.2.2 y hy
          rw [mkB_size]; omega) (fun x hx => by
          obtain ⟨y, hy, rfl⟩ := List.mem_map.1 hx
          have := sw.2.2.2.2 y hy
          rw [mkB_size]; omega) (min (v.p.map mkB).length (w.p.map mkB).length) 0 (by omega)
        rw [map_L_mkB, map_L_mkB, List.drop_zero, List.drop_zero, List.length_map, List.length_map, hvp, hwp] at h
        exact h
  refine ev_ite (fun h0 => hj _ ?_) (fun h0 => hj _ ?_)
  · rw [List.length_map] at h0 ⊢
    have : v.p = [] := List.eq_nil_of_length_eq_zero (by omega)
    rw [this]
    cases w.p with
    | nil => rfl
    | cons x l => simp; omega
  · rw [List.length_map] at h0
    have : v.p.isEmpty = false := by
      cases hv : v.p with
      | nil => rw [hv] at h0; exact absurd rfl h0
      | cons => rfl
    rw [this]; rfl
end Go.Proofs.YtknmfmedklfepaaGreatDoor.Q

/-
  What the printed functions of layer 4 (path) and its reference come to.
-/
namespace Go.Proofs.YtknmfmedklfepaaGreatDoor.Q
open Go.RowKit Go.Proofs.YtknmfmedklfepaaGreatDoor.P Go.Proofs.YtknmfmedklfepaaGreatDoorB Go.Proofs.YtknmfmedklfepaaGreatDoorW.PrintWords Go.Proofs.YtknmfmedklfepaaGreatDoorW.PrintLast Go.Proofs.YtknmfmedklfepaaGreatDoorW.PrintMore
set_option linter.unusedSimpArgs false

/-- Is a text a path? -/
def isPath (l : List UInt8) : Bool := (partsL 47 l).all elemL
def withinL (p q : List UInt8) : Bool := isPath p && isPath q && (p ++ [47]).isPrefixOf (q ++ [47])

theorem elem_eq (s : ByteArray) (hs : s.size ≤ 1000000000) : path_element.f s = some (elemL (L s)) := by
  unfold path_element.f
  rw [if_pos hs]
  rfl
theorem Elements_loop (x l : List ByteArray) (hl : l.length ≤ 1000000001) (hm : ∀ s, s ∈ l → s.size ≤ 1000000000) (d : Nat) : ∀ i : Nat, i + d = l.length →
    Ev (fun k => path_Elements.l0 k x l l.length i) (if (l.drop i).all fun s => elemL (L s) then (x, 0) else ([], 1)) := by
  induction d with
  | zero =>
    intro i hi
    refine ev_step (fun k => by rw [path_Elements.l0]) ?_
    refine ev_neg (by omega) (ev_now ?_)
    rw [List.drop_eq_nil_of_le (by omega)]; rfl
  | succ d ih =>
    intro i hi
    have hil : i < l.length := by omega
    refine ev_step (fun k => by rw [path_Elements.l0]) ?_
    refine ev_pos (by omega) (ev_pos (by omega) (ev_pos (by omega) ?_))
    rw [rdOf_at _ l i hil, elem_eq _ (hm _ (List.getElem_mem _)), w_succ i (by omega), List.drop_eq_getElem_cons hil, List.all_cons]
    refine ev_some ?_
    refine ev_ite (fun h => ?_) (fun h => ?_)
    · rw [h, Bool.true_and]
      exact ih (i + 1) (by omega)
    · have h' : elemL (L l[i]) = false := by simpa using h
      rw [h', Bool.false_and]
      exact ev_now rfl
theorem Elements_ev (s : ByteArray) (hs : s.size ≤ 1000000000) : Ev (fun k => path_Elements.f k s) (if isPath (L s) then (partsB 47 s, 0) else ([], 1)) := by
  unfold path_Elements.f
  have hl := (partsL_length 47 (L s)).1
  have hz := L_size s
  rw [Parts_eq s 47 (by decide) (by decide) hs]
  refine ev_some ?_
  have h := Elements_loop (partsB 47 s) (partsB 47 s) (by rw [partsB_length]; omega) (fun p hp => by
    simp only [partsB, List.mem_map] at hp
    obtain ⟨q, hq, rfl⟩ := hp
    have := part_le 47 (L s) q hq
    rw [← L_size, L_mk]; omega) (partsB 47 s).length 0 (by omega)
  have he : ((partsB 47 s).drop 0).all (fun s => elemL (L s)) = isPath (L s) := by
    unfold isPath partsB
    rw [List.drop_zero, List.all_map]
    rfl
  rw [he] at h
  exact h
theorem May_ev (s : ByteArray) (hs : s.size ≤ 1000000000) : Ev (fun k => path_May.f k s) (isPath (L s)) := by
  unfold path_May.f
  refine ev_bind (Elements_ev s hs) (ev_now ?_)
  cases isPath (L s) <;> rfl


/-! ### the reference -/
theorem elemOk_iff (b : UInt8) : elemOk b = true ↔ ¬ clsOf b.toNat < 1 ∧ ¬ clsOf b.toNat > 3 := by
  unfold elemOk
  have := clsOf_range b.toNat
  simp only [List.contains_iff_mem, List.mem_cons, List.not_mem_nil, or_false]
  omega
theorem refElem_loop (s : ByteArray) (hs : (L s).length ≤ 1000000000) (d : Nat) : ∀ i : Nat, i + d = (L s).length → Ev (fun k => graftwoodref04_Element.l0 k s i) (((L s).drop i).all elemOk) := by
  have sz := L_size s
  induction d with
  | zero =>
    intro i hi
    refine ev_step (fun k => by rw [graftwoodref04_Element.l0]) ?_
    refine ev_neg (by omega) (ev_now ?_)
    rw [List.drop_eq_nil_of_le (by omega)]; rfl
  | succ d ih =>
    intro i hi
    have hil : i < (L s).length := by omega
    have hb := (L s)[i].toNat_lt
    refine ev_step (fun k => by rw [graftwoodref04_Element.l0]) ?_
    refine ev_pos (by omega) (ev_pos (by omega) ?_)
    rw [bt_L s i hil, List.drop_eq_getElem_cons hil, List.all_cons, w_succ i (by omega)]
    refine ev_bind (refClass_ev _ (by omega) (by omega)) ?_
    by_cases hok : elemOk (L s)[i] = true
    · have h := (elemOk_iff _).1 hok
      rw [hok, Bool.true_and]
      exact ev_neg h.1 (ev_neg h.2 (ih (i + 1) (by omega)))
    · have hno : elemOk (L s)[i] = false := by simpa using hok
      rw [hno, Bool.false_and]
      refine ev_ite (fun _ => ev_now rfl) (fun h1 => ?_)
      exact ev_pos (Decidable.byContradiction fun h3 => hok ((elemOk_iff _).2 ⟨h1, h3⟩)) (ev_now rfl)
theorem refElem_ev (s : ByteArray) (hs : s.size ≤ 1000000000) : Ev (fun k => graftwoodref04_Element.f k s) (elemL (L s)) := by
  have sz := L_size s
  unfold graftwoodref04_Element.f
  have hj : ∀ b : Bool, elemL (L s) = (!b && (L s).all elemOk) → Ev (fun k => graftwoodref04_Element.j0 k s b) (elemL (L s)) := by
    intro b hb
    refine ev_step (fun k => by rw [graftwoodref04_Element.j0]) ?_
    cases b with
    | true => exact ev_pos rfl (ev_now (by rw [hb]; rfl))
    | false =>
      refine ev_neg (by simp) ?_
      have h := refElem_loop s (by omega) (L s).length 0 (by omega)
      rw [List.drop_zero] at h
      rw [hb]
      exact h
  cases hL : L s with
  | nil =>
    rw [hL] at sz hj
    simp only [List.length_nil] at sz
    exact ev_pos (by omega) (hj _ rfl)
  | cons b t =>
    rw [hL] at sz hj
    simp only [List.length_cons] at sz
    refine ev_neg (by omega) (ev_pos (by omega) ?_)
    have h0 : bt s 0 = (b.toNat : Int) := by
      have := bt_L s 0 (by rw [hL]; simp)
      simpa [hL] using this
    have hlast : lastR (b :: t) = (((b :: t).getLast (by simp)).toNat : Int) := by
      unfold lastR
      rw [List.getLast?_eq_some_getLast (by simp)]
      rfl
    have hl : bt s (wrap64 ((s.size : Int) - 1)) = lastR (b :: t) := by
      have e : wrap64 ((s.size : Int) - 1) = (t.length : Int) := by rw [w_id (by omega) (by omega)]; omega
      have := bt_L s t.length (by rw [hL]; simp)
      rw [e, this, hlast, List.getLast_eq_getElem]
      congr 2
      simp [hL]
    rw [h0, hl]
    have hb46 : ((b.toNat : Int) = 46) ↔ b = 46 := ⟨fun e => UInt8.toNat_inj.1 (by have : (46 : UInt8).toNat = 46 := rfl; omega), fun e => by rw [e]; rfl⟩
    have hval : elemL (b :: t) = ((b :: t).all elemOk && !(b == 46) && !(lastR (b :: t) == 46)) := by
      unfold elemL elemPre
      simp
    refine ev_ite (fun h => ?_) (fun h => ?_)
    · refine hj _ ?_
      rw [hval, hb46.1 h]
      simp
    · have hbn : (b == 46) = false := beq_eq_false_iff_ne.2 (fun e => h (hb46.2 e))
      refine ev_pos (by rw [w_id (by omega) (by omega)]; omega) (ev_pos (by rw [w_id (by omega) (by omega)]; omega) (hj _ ?_))
      rw [hval, hbn]
      cases (b :: t).all elemOk <;> cases (lastR (b :: t) == 46) <;> rfl
theorem refMay4_loop (l : List ByteArray) (hl : l.length ≤ 1000000001) (hm : ∀ s, s ∈ l → s.size ≤ 1000000000) (d : Nat) : ∀ i : Nat, i + d = l.length →
    Ev (fun k => graftwoodref04_May.l0 k l i) ((l.drop i).all fun s => elemL (L s)) := by
  induction d with
  | zero =>
    intro i hi
    refine ev_step (fun k => by rw [graftwoodref04_May.l0]) ?_
    refine ev_neg (by omega) (ev_now ?_)
    rw [List.drop_eq_nil_of_le (by omega)]; rfl
  | succ d ih =>
    intro i hi
    have hil : i < l.length := by omega
    refine ev_step (fun k => by rw [graftwoodref04_May.l0]) ?_
    refine ev_pos (by omega) (ev_pos (by omega) ?_)
    rw [rdOf_at _ l i hil, w_succ i (by omega), List.drop_eq_getElem_cons hil, List.all_cons]
    refine ev_bind (refElem_ev _ (hm _ (List.getElem_mem _))) ?_
    refine ev_ite (fun h => ?_) (fun h => ?_)
    · rw [h, Bool.true_and]
      exact ih (i + 1) (by omega)
    · have h' : elemL (L l[i]) = false := by simpa using h
      rw [h', Bool.false_and]
      exact ev_now rfl
theorem refMay4_ev (s : ByteArray) (hs : s.size ≤ 1000000000) : Ev (fun k => graftwoodref04_May.f k s) (isPath (L s)) := by
  unfold graftwoodref04_May.f
  have hl := (partsL_length 47 (L s)).1
  have hz := L_size s
  refine ev_bind (refParts_ev s 47 (by decide) (by decide) hs) ?_
  have h := refMay4_loop (partsB 47 s) (by rw [partsB_length]; omega) (fun p hp => by
    simp only [partsB, List.mem_map] at hp
    obtain ⟨q, hq, rfl⟩ := hp
    have := part_le 47 (L s) q hq
    rw [← L_size, L_mk]; omega) (partsB 47 s).length 0 (by omega)
  have he : ((partsB 47 s).drop 0).all (fun s => elemL (L s)) = isPath (L s) := by
    unfold isPath partsB
    rw [List.drop_zero, List.all_map]
    rfl
  rw [he] at h
  exact h
end Go.Proofs.YtknmfmedklfepaaGreatDoor.Q

/-
  What the printed functions of layers 5 (node) and 17 (list) come to.
-/
namespace Go.Proofs.YtknmfmedklfepaaGreatDoor.Q
open Go.RowKit Go.Proofs.YtknmfmedklfepaaGreatDoor.P Go.Proofs.YtknmfmedklfepaaGreatDoorB Go.Proofs.YtknmfmedklfepaaGreatDoorW.PrintWords Go.Proofs.YtknmfmedklfepaaGreatDoorW.PrintLast Go.Proofs.YtknmfmedklfepaaGreatDoorW.PrintMore
set_option linter.unusedSimpArgs false
set_option linter.unusedVariables false
abbrev Nd := S55
theorem nd_ext {x y : Nd} (h0 : x.f0 = y.f0) (h1 : x.f1 = y.f1) : x = y := by
  cases x; cases y; cases h0; cases h1; rfl
theorem rdN_at (l : List Nd) (i : Nat) (h : i < l.length) : rd_T55 l (i : Int) = l[i] := by
  simp [rd_T55, List.getD_eq_getElem?_getD, h]

/-! ### nodes -/
def nodeOk (n : Nd) : Bool := isPath (L n.f0) && verOk (L n.f1)
theorem nodeMay_ev (p v : ByteArray) (hp : p.size ≤ 1000000) (hv : v.size ≤ 1000000) : Ev (fun k => node_May.f k p v) (isPath (L p) && verOk (L v)) := by
  unfold node_May.f
  refine ev_bind (May_ev p (by omega)) ?_
  cases isPath (L p) with
  | false => exact ev_neg (by decide) (ev_now rfl)
  | true => exact ev_pos rfl (ev_last (verMay_ev v hv))
def fewN (n : Nd) : Nd := ⟨few n.f0, few n.f1⟩
def fewL (l : List Nd) : List Nd := (l.take 24).map fewN
def smN (n : Nd) : Prop := n.f0.size ≤ 400 ∧ n.f1.size ≤ 400
def smallL (l : List Nd) : Prop := ∀ n, n ∈ l → smN n
def okL (l : List Nd) : Prop := ∀ n, n ∈ l → nodeOk n = true
theorem few_small (l : List Nd) : smallL (fewL l) := by
  intro n hn
  obtain ⟨x, -, rfl⟩ := List.mem_map.1 hn
  exact ⟨few_size _, few_size _⟩
theorem fewL_len (l : List Nd) : (fewL l).length ≤ 24 := by unfold fewL; rw [List.length_map, List.length_take]; omega
theorem few5_loop (l : List Nd) (d : Nat) : ∀ (i : Nat) (p : List Nd), i + d = min l.length 24 → p.length = i → Ev (fun k => graftwoodlaw05_Few.l0 k l p i) (p ++ ((l.take 24).drop i).map fewN) := by
  induction d with
  | zero =>
    intro i p hi hp
    have hd : (l.take 24).drop i = [] := List.drop_eq_nil_of_le (by rw [List.length_take]; omega)
    rw [hd, List.map_nil, List.append_nil]
    refine ev_step (fun k => by rw [graftwoodlaw05_Few.l0]) ?_
    exact ev_ite (fun h => ev_neg (by omega) (ev_now rfl)) (fun _ => ev_now rfl)
  | succ d ih =>
    intro i p hi hp
    have hil : i < l.length := by omega
    refine ev_step (fun k => by rw [graftwoodlaw05_Few.l0]) ?_
    refine ev_pos (by omega) (ev_pos (by omega) (ev_pos (by omega) ?_))
    unfold graftwoodlaw05_One.f
    rw [rdN_at l i hil, Few_eq, Few_eq, w_succ i (by omega)]
    refine ev_some (ev_pos (by omega) ?_)
    have h := ih (i + 1) (p ++ [fewN l[i]]) (by omega) (by simp [hp])
    have hd : (l.take 24).drop i = l[i] :: (l.take 24).drop (i + 1) := by
      rw [List.drop_eq_getElem_cons (by rw [List.length_take]; omega), List.getElem_take]
    rw [hd, List.map_cons]
    rw [List.append_assoc] at h
    exact h
theorem few5_ev (l : List Nd) : Ev (fun k => graftwoodlaw05_Few.f k l) (fewL l) := by
  unfold graftwoodlaw05_Few.f
  exact few5_loop l (min l.length 24) 0 [] (by omega) rfl
/-! ### their order -/
def dV : Ver := ⟨[], [], [], []⟩
def vN (n : Nd) : Ver := (splitL (L n.f1)).getD dV
theorem vN_some {n : Nd} (h : nodeOk n = true) : splitL (L n.f1) = some (vN n) := by
  unfold nodeOk verOk at h
  simp only [Bool.and_eq_true] at h
  obtain ⟨v, hv⟩ := Option.isSome_iff_exists.1 h.2
  unfold vN
  rw [hv]; rfl
def nodeC (a b : Nd) : Int := lexC cmpL verC (L a.f0, vN a) (L b.f0, vN b)
theorem nodeC_flip (a b : Nd) : nodeC b a = - nodeC a b := (tot_lex tot_cmpL tot_ver).flip _ _
theorem nodeC_lt {a b c : Nd} (h1 : nodeC a b < 0) (h2 : nodeC b c < 0) : nodeC a c < 0 := Tot.strictL (tot_lex tot_cmpL tot_ver) h1 (by unfold nodeC at h2; omega)
theorem nodeC_zero {a b : Nd} (ha : nodeOk a = true) (hb : nodeOk b = true) : nodeC a b = 0 ↔ a = b := by
  unfold nodeC
  rw [(tot_lex tot_cmpL tot_ver).zero]
  constructor
  · intro h
    simp only [Prod.mk.injEq] at h
    have h1 := vN_some ha
    have h2 := vN_some hb
    rw [← h.2] at h2
    exact nd_ext (L_inj h.1) (L_inj (splitL_inj h1 h2))
  · intro h; rw [h]
theorem eq_nd (x n : Nd) : (x.f0.toList == n.f0.toList && x.f1.toList == n.f1.toList) = decide (x.f0 = n.f0 ∧ x.f1 = n.f1) := by
  rw [toList_L, toList_L, toList_L, toList_L, Bool.eq_iff_iff]
  simp only [Bool.and_eq_true, beq_iff_eq, decide_eq_true_eq]
  exact ⟨fun h => ⟨L_inj h.1, L_inj h.2⟩, fun h => ⟨by rw [h.1], by rw [h.2]⟩⟩
theorem nodeOrder_ev (a b : Nd) (ha : nodeOk a = true) (hb : nodeOk b = true) (sa : smN a) (sb : smN b) : Ev (fun k => node_order.f k a.f0 a.f1 b.f0 b.f1) (nodeC a b) := by
  unfold node_order.f
  rw [eq_nd]
  obtain ⟨sa0, sa1⟩ := sa
  obtain ⟨sb0, sb1⟩ := sb
  refine ev_ite (fun h => ?_) (fun h => ?_)
  · have h' := of_decide_eq_true h
    exact ev_now ((nodeC_zero ha hb).2 (nd_ext h'.1 h'.2)).symm
  · refine ev_bind (verCmp_ev a.f1 b.f1 (by omega) (by omega)) ?_
    rw [Cmp_eq, vN_some ha, vN_some hb]
    refine ev_some (ev_last ?_)
    have h1 := Or_ev [cmpL (L a.f0) (L b.f0), verC (vN a) (vN b)] (by simp)
    have e : orL [cmpL (L a.f0) (L b.f0), verC (vN a) (vN b)] = nodeC a b := by
      simp only [orL, nodeC, lexC]
      by_cases hc : cmpL (L a.f0) (L b.f0) = 0
      · rw [if_pos hc, if_pos hc]
        by_cases hv : verC (vN a) (vN b) = 0
        · rw [if_pos hv, hv]
        · rw [if_neg hv]
      · rw [if_neg hc, if_neg hc]
    rw [e] at h1
    exact h1
/-! ### sets of nodes -/
def chkP : Option Nd → List Nd → Bool
  | _, [] => true
  | none, n :: t => nodeOk n && chkP (some n) t
  | some q, n :: t => nodeOk n && (decide (nodeC q n < 0) && chkP (some n) t)
def chk (l : List Nd) : Bool := chkP none l
def srt (l : List Nd) : Prop := l.Pairwise (fun a b => nodeC a b < 0)
theorem chkP_some : ∀ (l : List Nd) (q : Nd), chkP (some q) l = true ↔ okL l ∧ srt (q :: l)
  | [], q => by simp [chkP, okL, srt]
  | n :: t, q => by
    rw [chkP, Bool.and_eq_true, Bool.and_eq_true, decide_eq_true_eq, chkP_some t n]
    unfold srt okL
    rw [List.pairwise_cons (a := q)]
    constructor
    · rintro ⟨h1, h2, h3, h4⟩
      refine ⟨fun x hx => ?_, fun x hx => ?_, h4⟩
      · rcases List.mem_cons.1 hx with rfl | hx
        · exact h1
        · exact h3 x hx
      · rcases List.mem_cons.1 hx with rfl | hx
        · exact h2
        · exact nodeC_lt h2 ((List.pairwise_cons.1 h4).1 x hx)
    · rintro ⟨h1, h2, h3⟩
      exact ⟨h1 n (by simp), h2 n (by simp), fun x hx => h1 x (List.mem_cons_of_mem _ hx), h3⟩
theorem chk_iff (l : List Nd) : chk l = true ↔ okL l ∧ srt l := by
  unfold chk
  cases l with
  | nil => simp [chkP, okL, srt]
  | cons n t =>
    rw [chkP, Bool.and_eq_true, chkP_some]
    constructor
    · rintro ⟨h1, h2, h3⟩
      refine ⟨fun x hx => ?_, h3⟩
      rcases List.mem_cons.1 hx with rfl | hx
      · exact h1
      · exact h2 x hx
    · rintro ⟨h1, h2⟩
      exact ⟨h1 n (by simp), fun x hx => h1 x (List.mem_cons_of_mem _ hx), h2⟩

/-! ### the references -/
theorem refMay5_ev (n : Nd) (hS : smN n) : Ev (fun k => graftwoodref05_May.f k n.f0 n.f1) (nodeOk n) := by
  obtain ⟨h0, h1⟩ := hS
  unfold graftwoodref05_May.f nodeOk
  refine ev_bind (refMay4_ev n.f0 (by omega)) ?_
  cases isPath (L n.f0) with
  | false => exact ev_neg (by decide) (ev_now rfl)
  | true => exact ev_pos rfl (ev_last (refVerMay_ev n.f1 (by omega)))
theorem less_ev (a b : Nd) (ha : nodeOk a = true) (hb : nodeOk b = true) (sa : smN a) (sb : smN b) : Ev (fun k => graftwoodref05_Less.f k a.f0 a.f1 b.f0 b.f1) (decide (nodeC a b < 0)) := by
  obtain ⟨sa0, sa1⟩ := sa
  obtain ⟨sb0, sb1⟩ := sb
  unfold graftwoodref05_Less.f nodeC lexC
  refine ev_bind (refCmp_ev a.f0 b.f0 (by omega)) ?_
  simp only
  refine ev_ite (fun h => ?_) (fun h => ?_)
  · rw [if_neg (by omega), decide_eq_true h]; exact ev_now rfl
  · refine ev_ite (fun h2 => ?_) (fun h2 => ?_)
    · rw [if_pos h2]
      exact ev_bind (refVerCmp_ev a.f1 b.f1 (by omega) (by omega) (vN a) (vN b) (vN_some ha) (vN_some hb)) (ev_now rfl)
    · rw [if_neg h2, decide_eq_false h]; exact ev_now rfl
theorem rchk_loop (l : List Nd) (hS : smallL l) (hl : l.length ≤ 1000000) (d : Nat) : ∀ (i : Nat) (q : Option Nd), i + d = l.length → (i = 0 → q = none) → (∀ j (h : j < l.length), i = j + 1 → q = some l[j] ∧ nodeOk l[j] = true) → Ev (fun k => graftwoodref05_Check.l0 k l i) (chkP q (l.drop i)) := by
  induction d with
  | zero =>
    intro i q hi h0 h1
    rw [List.drop_eq_nil_of_le (by omega)]
    refine ev_step (fun k => by rw [graftwoodref05_Check.l0]) ?_
    refine ev_neg (by omega) (ev_now ?_)
    cases q <;> rfl
  | succ d ih =>
    intro i q hi h0 h1
    have hil : i < l.length := by omega
    have hs := hS l[i] (List.getElem_mem hil)
    rw [List.drop_eq_getElem_cons hil]
    refine ev_step (fun k => by rw [graftwoodref05_Check.l0]) ?_
    refine ev_pos (by omega) (ev_pos (by omega) ?_)
    rw [rdN_at l i hil, w_succ i (by omega)]
    refine ev_bind (refMay5_ev l[i] hs) ?_
    cases hok : nodeOk l[i] with
    | false =>
      refine ev_neg (by decide) (ev_now ?_)
      cases q <;> simp [chkP, hok]
    | true =>
      refine ev_pos rfl ?_
      have hn := ih (i + 1) (some l[i]) (by omega) (by omega) (fun j h e => by
        obtain rfl : j = i := by omega
        exact ⟨rfl, hok⟩)
      cases i with
      | zero =>
        obtain rfl := h0 rfl
        refine ev_neg (by omega) ?_
        rw [chkP, hok, Bool.true_and]
        exact hn
      | succ j =>
        obtain ⟨rfl, hj⟩ := h1 j (by omega) rfl
        have hw : wrap64 (((j + 1 : Nat) : Int) - 1) = (j : Int) := by rw [w_small (by omega) (by omega)]; omega
        refine ev_pos (by omega) ?_
        rw [hw]
        refine ev_pos (by omega) (ev_pos (by omega) ?_)
        rw [rdN_at l j (by omega)]
        refine ev_bind (less_ev l[j] l[j + 1] hj hok (hS _ (List.getElem_mem _)) hs) ?_
        rw [chkP, hok, Bool.true_and]
        cases hc : decide (nodeC l[j] l[j + 1] < 0) with
        | false => exact ev_neg (by decide) (ev_now rfl)
        | true => rw [Bool.true_and]; exact ev_pos rfl hn
theorem refCheck_ev (l : List Nd) (hS : smallL l) (hl : l.length ≤ 1000000) : Ev (fun k => graftwoodref05_Check.f k l) (chk l) := by
  unfold graftwoodref05_Check.f
  have h := rchk_loop l hS hl l.length 0 none (by omega) (fun _ => rfl) (fun j h e => by omega)
  rw [List.drop_zero] at h
  exact h

/-! ### build lists -/
theorem nodeMay5_ev (n : Nd) (hS : smN n) : Ev (fun k => node_May.f k n.f0 n.f1) (nodeOk n) := nodeMay_ev n.f0 n.f1 (by have := hS.1; omega) (by have := hS.2; omega)
theorem nchk_loop (l : List Nd) (hS : smallL l) (hl : l.length ≤ 1000000) (d : Nat) : ∀ (i : Nat) (q : Option Nd), i + d = l.length → (i = 0 → q = none) → (∀ j (h : j < l.length), i = j + 1 → q = some l[j] ∧ nodeOk l[j] = true) → Ev (fun k => node_Check.l0 k l l l.length i) (if chkP q (l.drop i) = true then 0 else 1) := by
  induction d with
  | zero =>
    intro i q hi h0 h1
    rw [List.drop_eq_nil_of_le (by omega)]
    refine ev_step (fun k => by rw [node_Check.l0]) ?_
    refine ev_neg (by omega) (ev_now ?_)
    cases q <;> rfl
  | succ d ih =>
    intro i q hi h0 h1
    have hil : i < l.length := by omega
    have hs := hS l[i] (List.getElem_mem hil)
    rw [List.drop_eq_getElem_cons hil]
    refine ev_step (fun k => by rw [node_Check.l0]) ?_
    refine ev_pos (by omega) (ev_pos (by omega) (ev_pos (by omega) ?_))
    rw [rdN_at l i hil, w_succ i (by omega)]
    refine ev_bind (nodeMay5_ev l[i] hs) ?_
    cases hok : nodeOk l[i] with
    | false =>
      refine ev_neg (by decide) (ev_now ?_)
      cases q <;> simp [chkP, hok]
    | true =>
      refine ev_pos rfl ?_
      have hn := ih (i + 1) (some l[i]) (by omega) (by omega) (fun j h e => by
        obtain rfl : j = i := by omega
        exact ⟨rfl, hok⟩)
      cases i with
      | zero =>
        obtain rfl := h0 rfl
        refine ev_neg (by omega) ?_
        rw [chkP, hok, Bool.true_and]
        exact hn
      | succ j =>
        obtain ⟨rfl, hj⟩ := h1 j (by omega) rfl
        have hw : wrap64 (((j + 1 : Nat) : Int) - 1) = (j : Int) := by rw [w_small (by omega) (by omega)]; omega
        refine ev_pos (by omega) ?_
        rw [hw]
        refine ev_pos (by omega) (ev_pos (by omega) ?_)
        rw [rdN_at l j (by omega)]
        refine ev_bind (nodeOrder_ev l[j] l[j + 1] hj hok (hS _ (List.getElem_mem _)) hs) (ev_ite (fun h => ev_now ?_) (fun h => ?_))
        · rw [chkP, hok, decide_eq_false (by omega)]; rfl
        · rw [chkP, hok, Bool.true_and, decide_eq_true (by omega), Bool.true_and]; exact hn
theorem nodeCheck_ev (l : List Nd) (hS : smallL l) (hl : l.length ≤ 1000000) : Ev (fun k => node_Check.f k l) (if chk l = true then 0 else 1) := by
  unfold node_Check.f
  have h := nchk_loop l hS hl l.length 0 none (by omega) (fun _ => rfl) (fun j h e => by omega)
  rw [List.drop_zero] at h
  exact h
/-- No two neighbours of one path. -/
def adjP : Option Nd → List Nd → Bool
  | _, [] => true
  | none, n :: t => adjP (some n) t
  | some q, n :: t => !decide (q.f0 = n.f0) && adjP (some n) t
def okB (l : List Nd) : Bool := adjP none l && chk l
theorem path_eq (x y : ByteArray) : x.toList = y.toList ↔ x = y := by
  rw [toList_L, toList_L]
  exact ⟨L_inj, fun h => by rw [h]⟩
theorem lchk_loop (l : List Nd) (hS : smallL l) (hl : l.length ≤ 1000000) (d : Nat) : ∀ (i : Nat) (q : Option Nd), i + d = l.length → (i = 0 → q = none) → (∀ j (h : j < l.length), i = j + 1 → q = some l[j]) → Ev (fun k => list_Check.l0 k l l.length i) (if (adjP q (l.drop i) && chk l) = true then 0 else 1) := by
  induction d with
  | zero =>
    intro i q hi h0 h1
    rw [List.drop_eq_nil_of_le (by omega)]
    refine ev_step (fun k => by rw [list_Check.l0]) ?_
    refine ev_neg (by omega) (ev_last ?_)
    have e : adjP q [] = true := by cases q <;> rfl
    rw [e, Bool.true_and]
    exact nodeCheck_ev l hS hl
  | succ d ih =>
    intro i q hi h0 h1
    have hil : i < l.length := by omega
    rw [List.drop_eq_getElem_cons hil]
    refine ev_step (fun k => by rw [list_Check.l0]) ?_
    refine ev_pos (by omega) ?_
    rw [w_succ i (by omega)]
    have hn := ih (i + 1) (some l[i]) (by omega) (by omega) (fun j h e => by
      obtain rfl : j = i := by omega
      rfl)
    cases i with
    | zero =>
      obtain rfl := h0 rfl
      exact ev_neg (by omega) hn
    | succ j =>
      obtain rfl := h1 j (by omega) rfl
      have hw : wrap64 (((j + 1 : Nat) : Int) - 1) = (j : Int) := by rw [w_small (by omega) (by omega)]; omega
      refine ev_pos (by omega) ?_
      rw [hw]
      refine ev_pos (by omega) (ev_pos (by omega) (ev_pos (by omega) (ev_pos (by omega) ?_)))
      rw [rdN_at l j (by omega), rdN_at l (j + 1) hil]
      refine ev_ite (fun h => ev_now ?_) (fun h => ?_)
      · rw [adjP, decide_eq_true ((path_eq _ _).1 h)]; rfl
      · rw [adjP, decide_eq_false (fun e => h ((path_eq _ _).2 e)), Bool.not_false, Bool.true_and]; exact hn
theorem listCheck_ev (l : List Nd) (hS : smallL l) (hl : l.length ≤ 1000000) : Ev (fun k => list_Check.f k l) (if okB l = true then 0 else 1) := by
  unfold list_Check.f
  have h := lchk_loop l hS hl l.length 0 none (by omega) (fun _ => rfl) (fun j h e => by omega)
  rw [List.drop_zero] at h
  exact h
theorem lmay_loop (l : List Nd) (hS : smallL l) (hl : l.length ≤ 1000000) (d : Nat) : ∀ (i : Nat) (h : i < l.length), i + 1 + d = l.length → Ev (fun k => graftwoodref17_May.l0 k l ((i + 1 : Nat) : Int)) (adjP (some l[i]) (l.drop (i + 1)) && chk l) := by
  induction d with
  | zero =>
    intro i h hi
    rw [List.drop_eq_nil_of_le (by omega)]
    refine ev_step (fun k => by rw [graftwoodref17_May.l0]) ?_
    refine ev_neg (by omega) (ev_last ?_)
    exact refCheck_ev l hS hl
  | succ d ih =>
    intro i h hi
    have hil : i + 1 < l.length := by omega
    have hw : wrap64 (((i + 1 : Nat) : Int) - 1) = (i : Int) := by rw [w_small (by omega) (by omega)]; omega
    rw [List.drop_eq_getElem_cons hil]
    refine ev_step (fun k => by rw [graftwoodref17_May.l0]) ?_
    refine ev_pos (by omega) (ev_pos (by omega) ?_)
    rw [hw]
    refine ev_pos (by omega) (ev_pos (by omega) ?_)
    rw [rdN_at l i h, rdN_at l (i + 1) hil, w_succ (i + 1) (by omega)]
    refine ev_ite (fun h => ev_now ?_) (fun h => ?_)
    · rw [adjP, decide_eq_true ((path_eq _ _).1 h).symm]; rfl
    · rw [adjP, decide_eq_false (fun e => h ((path_eq _ _).2 e.symm)), Bool.not_false, Bool.true_and]; exact ih (i + 1) hil (by omega)
theorem refMay17_ev (l : List Nd) (hS : smallL l) (hl : l.length ≤ 1000000) : Ev (fun k => graftwoodref17_May.f k l) (okB l) := by
  unfold graftwoodref17_May.f okB
  cases l with
  | nil =>
    refine ev_step (fun k => by rw [graftwoodref17_May.l0]) ?_
    exact ev_neg (by simp) (ev_last (refCheck_ev [] hS hl))
  | cons n t => exact lmay_loop (n :: t) hS hl t.length 0 (by simp) (by simp; omega)
def pth (a b : Nd) : Prop := cmpL (L a.f0) (L b.f0) < 0
theorem pth_trans {a b c : Nd} (h : pth a b) (h' : pth b c) : pth a c := tot_cmpL.strictL h (by unfold pth at h'; omega)
theorem pth_node {a b : Nd} (h : pth a b) : nodeC a b < 0 := by
  unfold pth at h
  unfold nodeC lexC
  simp only
  rw [if_neg (by omega)]
  exact h
theorem pth_ne {a b : Nd} (h : pth a b) : a.f0 ≠ b.f0 := fun e => by
  unfold pth at h
  rw [e, cmpL_self] at h
  omega
theorem node_pth {a b : Nd} (h : nodeC a b < 0) (hn : a.f0 ≠ b.f0) : pth a b := by
  unfold nodeC lexC at h
  simp only at h
  rw [if_neg (fun e => hn (L_inj (cmpL_zero.1 e)))] at h
  exact h
theorem adjP_some : ∀ (l : List Nd) (q : Nd), srt (q :: l) → (adjP (some q) l = true ↔ (q :: l).Pairwise pth)
  | [], q, _ => by simp [adjP]
  | n :: t, q, h => by
    have h2 : srt (n :: t) := (List.pairwise_cons.1 h).2
    rw [adjP, Bool.and_eq_true, adjP_some t n h2, Bool.not_eq_true', decide_eq_false_iff_not, List.pairwise_cons (a := q)]
    have hq := (List.pairwise_cons.1 h).1
    constructor
    · rintro ⟨h3, h4⟩
      have h5 := node_pth (hq n (by simp)) h3
      refine ⟨fun x hx => ?_, h4⟩
      rcases List.mem_cons.1 hx with rfl | hx
      · exact h5
      · exact pth_trans h5 ((List.pairwise_cons.1 h4).1 x hx)
    · rintro ⟨h3, h4⟩
      exact ⟨pth_ne (h3 n (by simp)), h4⟩
theorem okB_iff (l : List Nd) : okB l = true ↔ okL l ∧ l.Pairwise pth := by
  unfold okB
  rw [Bool.and_eq_true, chk_iff]
  constructor
  · rintro ⟨h1, h2, h3⟩
    refine ⟨h2, ?_⟩
    cases l with
    | nil => exact List.Pairwise.nil
    | cons n t => exact (adjP_some t n h3).1 h1
  · rintro ⟨h1, h2⟩
    have h3 : srt l := h2.imp pth_node
    refine ⟨?_, h1, h3⟩
    cases l with
    | nil => rfl
    | cons n t => exact (adjP_some t n h3).2 h2
/-- The version that a path has: the first one. -/
def pickL (p : ByteArray) : List Nd → ByteArray
  | [] => ⟨#[]⟩
  | n :: t => if n.f0 = p then n.f1 else pickL p t
theorem pickL_none {p : ByteArray} : ∀ {l : List Nd}, (∀ n, n ∈ l → n.f0 ≠ p) → pickL p l = ⟨#[]⟩
  | [], _ => rfl
  | n :: t, h => by rw [pickL, if_neg (h n (by simp)), pickL_none (fun x hx => h x (List.mem_cons_of_mem _ hx))]
theorem pickL_mem {n : Nd} : ∀ {l : List Nd}, l.Pairwise pth → n ∈ l → pickL n.f0 l = n.f1
  | [], _, h => by simp at h
  | m :: t, hp, h => by
    rcases List.mem_cons.1 h with rfl | h
    · rw [pickL, if_pos rfl]
    · rw [pickL, if_neg (pth_ne ((List.pairwise_cons.1 hp).1 n h)), pickL_mem (List.pairwise_cons.1 hp).2 h]
theorem lastG_none {p : ByteArray} : ∀ {l : List Nd} {v : ByteArray}, (∀ n, n ∈ l → n.f0 ≠ p) → l.foldl (fun v n => if n.f0 = p then n.f1 else v) v = v
  | [], _, _ => rfl
  | n :: t, v, h => by rw [List.foldl_cons, if_neg (h n (by simp)), lastG_none (fun x hx => h x (List.mem_cons_of_mem _ hx))]
theorem lastL_pick {p : ByteArray} {l : List Nd} (hp : l.Pairwise pth) : lastL p l = pickL p l := by
  by_cases h : ∃ n, n ∈ l ∧ n.f0 = p
  · obtain ⟨n, hn, rfl⟩ := h
    rw [pickL_mem hp hn]
    obtain ⟨A, B, rfl⟩ := List.append_of_mem hn
    have hB : ∀ x, x ∈ B → x.f0 ≠ n.f0 := fun x hx e => pth_ne ((List.pairwise_cons.1 (List.pairwise_append.1 hp).2.1).1 x hx) e.symm
    unfold lastL
    rw [List.foldl_append, List.foldl_cons, if_pos rfl, lastG_none hB]
  · have h' : ∀ n, n ∈ l → n.f0 ≠ p := fun n hn e => h ⟨n, hn, e⟩
    rw [pickL_none h']
    exact lastG_none h'
theorem pickL_cases (p : ByteArray) : ∀ l : List Nd, (pickL p l = ⟨#[]⟩ ∧ ∀ n, n ∈ l → n.f0 ≠ p) ∨ ∃ n, n ∈ l ∧ n.f0 = p ∧ pickL p l = n.f1
  | [] => .inl ⟨rfl, fun n h => by simp at h⟩
  | m :: t => by
    by_cases e : m.f0 = p
    · exact .inr ⟨m, by simp, e, by rw [pickL, if_pos e]⟩
    · rw [pickL, if_neg e]
      rcases pickL_cases p t with ⟨h1, h2⟩ | ⟨n, hn, h1, h2⟩
      · refine .inl ⟨h1, fun n hn => ?_⟩
        rcases List.mem_cons.1 hn with rfl | hn
        · exact e
        · exact h2 n hn
      · exact .inr ⟨n, List.mem_cons_of_mem _ hn, h1, h2⟩
theorem refPick_loop (l : List Nd) (p : ByteArray) (hl : l.length ≤ 1000000) (d : Nat) : ∀ i : Nat, i + d = l.length → Ev (fun k => graftwoodref17_Pick.l0 k l p i) (pickL p (l.drop i)) := by
  induction d with
  | zero =>
    intro i hi
    rw [List.drop_eq_nil_of_le (by omega)]
    refine ev_step (fun k => by rw [graftwoodref17_Pick.l0]) ?_
    exact ev_neg (by omega) (ev_now rfl)
  | succ d ih =>
    intro i hi
    have hil : i < l.length := by omega
    rw [List.drop_eq_getElem_cons hil, pickL]
    refine ev_step (fun k => by rw [graftwoodref17_Pick.l0]) ?_
    refine ev_pos (by omega) (ev_pos (by omega) ?_)
    rw [rdN_at l i hil, w_succ i (by omega)]
    refine ev_ite (fun h => ?_) (fun h => ?_)
    · rw [if_pos ((path_eq _ _).1 h)]; exact ev_now rfl
    · rw [if_neg (fun e => h ((path_eq _ _).2 e))]; exact ih (i + 1) (by omega)
theorem refPick_ev (l : List Nd) (p : ByteArray) (hl : l.length ≤ 1000000) : Ev (fun k => graftwoodref17_Pick.f k l p) (pickL p l) := by
  unfold graftwoodref17_Pick.f
  exact refPick_loop l p hl l.length 0 (by omega)
theorem ver_ne {l : List UInt8} (h : verOk l = true) : l ≠ [] := fun e => by rw [e] at h; exact absurd h (by decide)
theorem okP_few (l : List Nd) (hS : smallL l) (hl : l.length ≤ 1000000) : okP l = true := by
  unfold okP
  rw [Bool.and_eq_true, decide_eq_true_eq, List.all_eq_true]
  exact ⟨by omega, fun n hn => decide_eq_true (by have := (hS n hn).1; omega)⟩
theorem both_ev (a b : List Nd) (ha : smallL a) (hb : smallL b) (la : a.length ≤ 1000000) (lb : b.length ≤ 1000000) : Ev (fun k => bothF k a b) (if (okB a && okB b) = true then 0 else 1) := by
  unfold bothF
  refine ev_pos (by rw [okP_few a ha la, okP_few b hb lb]; rfl) (ev_bind (listCheck_ev a ha la) ?_)
  cases okB a with
  | false => exact ev_neg (by decide) (ev_now rfl)
  | true => exact ev_pos rfl (listCheck_ev b hb lb)
theorem delta_ok (a b : List Nd) (ha : smallL a) (hb : smallL b) (la : a.length ≤ 1000000) (lb : b.length ≤ 1000000) (h : (okB a && okB b) = true) : Ev (fun k => list_Delta.f k a b) (deltaL a b, 0) := by
  unfold list_Delta.f
  have hh := both_ev a b ha hb la lb
  rw [h] at hh
  exact ev_bind hh (ev_pos rfl (ev_now rfl))
theorem delta_bad (a b : List Nd) (ha : smallL a) (hb : smallL b) (la : a.length ≤ 1000000) (lb : b.length ≤ 1000000) (h : (okB a && okB b) = false) : Ev (fun k => list_Delta.f k a b) ([], 1) := by
  unfold list_Delta.f
  have hh := both_ev a b ha hb la lb
  rw [h] at hh
  exact ev_bind hh (ev_neg (by decide) (ev_now rfl))
end Go.Proofs.YtknmfmedklfepaaGreatDoor.Q

/-
  What the printed functions of layer 16 (tally) come to, and those of layer 17 that build on them.
-/
namespace Go.Proofs.YtknmfmedklfepaaGreatDoor.Q
open Go.RowKit Go.Proofs.YtknmfmedklfepaaGreatDoor.P Go.Proofs.YtknmfmedklfepaaGreatDoorB Go.Proofs.YtknmfmedklfepaaGreatDoorW.PrintWords Go.Proofs.YtknmfmedklfepaaGreatDoorW.PrintLast Go.Proofs.YtknmfmedklfepaaGreatDoorW.PrintMore
set_option linter.unusedSimpArgs false
set_option linter.unusedVariables false
abbrev Rw := S63
theorem rdR_at (l : List Rw) (i : Nat) (h : i < l.length) : rd_T63 l (i : Int) = l[i] := by
  simp [rd_T63, List.getD_eq_getElem?_getD, h]
def smR (r : Rw) : Prop := r.f0.size ≤ 400 ∧ r.f1.length ≤ 100000 ∧ ∀ v, v ∈ r.f1 → v.size ≤ 400
def smallR (l : List Rw) : Prop := ∀ r, r ∈ l → smR r
def vB (v : ByteArray) : Ver := (splitL (L v)).getD dV
theorem vB_some {v : ByteArray} (h : verOk (L v) = true) : splitL (L v) = some (vB v) := by
  unfold verOk at h
  obtain ⟨x, hx⟩ := Option.isSome_iff_exists.1 h
  unfold vB
  rw [hx]; rfl
/-- Versions, each above the one before. -/
def chkV : Option ByteArray → List ByteArray → Bool
  | _, [] => true
  | none, v :: t => verOk (L v) && chkV (some v) t
  | some q, v :: t => verOk (L v) && (decide (verC (vB q) (vB v) < 0) && chkV (some v) t)
def rowV (r : Rw) : Bool := isPath (L r.f0) && (!r.f1.isEmpty && chkV none r.f1)
def chkR : Option Rw → List Rw → Bool
  | _, [] => true
  | none, r :: t => rowV r && chkR (some r) t
  | some q, r :: t => rowV r && (decide (cmpL (L q.f0) (L r.f0) < 0) && chkR (some r) t)
theorem tord_ev (a b : ByteArray) (ha : verOk (L a) = true) (hb : verOk (L b) = true) (sa : a.size ≤ 400) (sb : b.size ≤ 400) : Ev (fun k => tally_order.f k a b) (verC (vB a) (vB b)) := by
  unfold tally_order.f
  have h := verCmp_ev a b (by omega) (by omega)
  rw [vB_some ha, vB_some hb] at h
  exact ev_bind h (ev_now rfl)
theorem tver_loop (l : List Rw) (i : Nat) (p : ByteArray) (vs : List ByteArray) (r : Int) (hr : Ev (fun k => tally_Check.l0 k l l l.length (wrap64 ((i : Int) + 1))) r) (hS : ∀ v, v ∈ vs → v.size ≤ 400) (hl : vs.length ≤ 1000000) (d : Nat) : ∀ (j : Nat) (q : Option ByteArray), j + d = vs.length → (j = 0 → q = none) → (∀ t (h : t < vs.length), j = t + 1 → q = some vs[t] ∧ verOk (L vs[t]) = true) →
    Ev (fun k => tally_Check.l1 k l l l.length i vs vs.length j p vs) (if chkV q (vs.drop j) = true then r else 1) := by
  induction d with
  | zero =>
    intro j q hj h0 h1
    rw [List.drop_eq_nil_of_le (by omega)]
    refine ev_step (fun k => by rw [tally_Check.l1]) ?_
    refine ev_neg (by omega) ?_
    have e : chkV q [] = true := by cases q <;> rfl
    rw [if_pos e]
    exact hr
  | succ d ih =>
    intro j q hj h0 h1
    have hjl : j < vs.length := by omega
    have hs := hS vs[j] (List.getElem_mem hjl)
    rw [List.drop_eq_getElem_cons hjl]
    refine ev_step (fun k => by rw [tally_Check.l1]) ?_
    refine ev_pos (by omega) (ev_pos (by omega) (ev_pos (by omega) ?_))
    rw [rdOf_at _ vs j hjl, w_succ j (by omega)]
    refine ev_bind (verMay_ev vs[j] (by omega)) ?_
    cases hok : verOk (L vs[j]) with
    | false =>
      refine ev_neg (by decide) (ev_now ?_)
      cases q <;> simp [chkV, hok]
    | true =>
      refine ev_pos rfl ?_
      have hn := ih (j + 1) (some vs[j]) (by omega) (by omega) (fun t h e => by
        obtain rfl : t = j := by omega
        exact ⟨rfl, hok⟩)
      cases j with
      | zero =>
        obtain rfl := h0 rfl
        refine ev_neg (by omega) ?_
        rw [chkV, hok, Bool.true_and]
        exact hn
      | succ t =>
        obtain ⟨rfl, ht⟩ := h1 t (by omega) rfl
        have hw : wrap64 (((t + 1 : Nat) : Int) - 1) = (t : Int) := by rw [w_small (by omega) (by omega)]; omega
        refine ev_pos (by omega) ?_
        rw [hw]
        refine ev_pos (by omega) (ev_pos (by omega) ?_)
        rw [rdOf_at _ vs t (by omega)]
        refine ev_bind (tord_ev vs[t] vs[t + 1] ht hok (hS _ (List.getElem_mem _)) hs) (ev_ite (fun h => ev_now ?_) (fun h => ?_))
        · rw [chkV, hok, decide_eq_false (by omega)]; rfl
        · rw [chkV, hok, Bool.true_and, decide_eq_true (by omega), Bool.true_and]; exact hn
theorem tchk_loop (l : List Rw) (hS : smallR l) (hl : l.length ≤ 1000000) (d : Nat) : ∀ (i : Nat) (q : Option Rw), i + d = l.length → (i = 0 → q = none) → (∀ j (h : j < l.length), i = j + 1 → q = some l[j]) → Ev (fun k => tally_Check.l0 k l l l.length i) (if chkR q (l.drop i) = true then 0 else 1) := by
  induction d with
  | zero =>
    intro i q hi h0 h1
    rw [List.drop_eq_nil_of_le (by omega)]
    refine ev_step (fun k => by rw [tally_Check.l0]) ?_
    refine ev_neg (by omega) (ev_now ?_)
    cases q <;> rfl
  | succ d ih =>
    intro i q hi h0 h1
    have hil : i < l.length := by omega
    have hs := hS l[i] (List.getElem_mem hil)
    have bad : ∀ (v : Bool), v = true → Ev (fun k => tally_Check.j1 k l l l.length i v l[i].f0 l[i].f1) 1 := fun v hv => ev_step (fun k => by rw [tally_Check.j1]) (ev_pos hv (ev_now rfl))
    have hn := ih (i + 1) (some l[i]) (by omega) (by omega) (fun j h e => by
      obtain rfl : j = i := by omega
      rfl)
    have good : ∀ (v : Bool), v = false → Ev (fun k => tally_Check.j1 k l l l.length i v l[i].f0 l[i].f1) (if chkV none l[i].f1 = true then (if chkR (some l[i]) (l.drop (i + 1)) = true then 0 else 1) else 1) := fun v hv => by
      refine ev_step (fun k => by rw [tally_Check.j1]) (ev_neg (by rw [hv]; decide) ?_)
      have h := tver_loop l i l[i].f0 l[i].f1 _ (by rw [w_succ i (by omega)]; exact hn) hs.2.2 (by have := hs.2.1; omega) l[i].f1.length 0 none (by omega) (fun _ => rfl) (fun j h e => by omega)
      rw [List.drop_zero] at h
      exact h
    rw [List.drop_eq_getElem_cons hil]
    refine ev_step (fun k => by rw [tally_Check.l0]) ?_
    refine ev_pos (by omega) (ev_pos (by omega) (ev_pos (by omega) ?_))
    rw [rdR_at l i hil]
    refine ev_bind (May_ev l[i].f0 (by have := hs.1; omega)) ?_
    cases hp : isPath (L l[i].f0) with
    | false =>
      refine ev_neg (by decide) ?_
      have e : chkR q (l[i] :: l.drop (i + 1)) = false := by cases q <;> simp [chkR, rowV, hp]
      rw [e]
      exact bad true rfl
    | true =>
      refine ev_pos rfl ?_
      cases hv : l[i].f1.isEmpty with
      | true =>
        have h2 : l[i].f1 = [] := List.isEmpty_iff.1 hv
        refine ev_pos (by rw [h2]; rfl) ?_
        have e : chkR q (l[i] :: l.drop (i + 1)) = false := by cases q <;> simp [chkR, rowV, hv]
        rw [e]
        exact bad true rfl
      | false =>
        refine ev_neg (fun e => by
          have : l[i].f1 = [] := List.length_eq_zero_iff.1 (by omega)
          rw [this] at hv; exact absurd hv (by decide)) ?_
        have hrow : rowV l[i] = chkV none l[i].f1 := by unfold rowV; rw [hp, hv]; rfl
        cases i with
        | zero =>
          obtain rfl := h0 rfl
          refine ev_neg (by omega) ?_
          have h := good false rfl
          rw [chkR, hrow]
          cases hc : chkV none l[0].f1 with
          | false => rw [hc] at h; exact h
          | true => rw [hc] at h; rw [Bool.true_and]; exact h
        | succ j =>
          obtain rfl := h1 j (by omega) rfl
          have hw : wrap64 (((j + 1 : Nat) : Int) - 1) = (j : Int) := by rw [w_small (by omega) (by omega)]; omega
          refine ev_pos (by omega) ?_
          rw [hw]
          refine ev_pos (by omega) (ev_pos (by omega) ?_)
          rw [rdR_at l j (by omega), Cmp_eq]
          refine ev_some ?_
          rw [chkR, hrow]
          by_cases hc : cmpL (L l[j].f0) (L l[j + 1].f0) < 0
          · have h := good (decide (cmpL (L l[j].f0) (L l[j + 1].f0) ≥ 0)) (decide_eq_false (by omega))
            rw [decide_eq_true hc, Bool.true_and]
            cases hd : chkV none l[j + 1].f1 with
            | false => rw [hd] at h; exact h
            | true => rw [hd] at h; rw [Bool.true_and]; exact h
          · rw [decide_eq_false hc, Bool.false_and, Bool.and_false]
            exact bad _ (decide_eq_true (by omega))
theorem tallyCheck_ev (l : List Rw) (hS : smallR l) (hl : l.length ≤ 1000000) : Ev (fun k => tally_Check.f k l) (if chkR none l = true then 0 else 1) := by
  unfold tally_Check.f
  have h := tchk_loop l hS hl l.length 0 none (by omega) (fun _ => rfl) (fun j h e => by omega)
  rw [List.drop_zero] at h
  exact h
def rth (a b : Rw) : Prop := cmpL (L a.f0) (L b.f0) < 0
theorem rth_trans {a b c : Rw} (h : rth a b) (h' : rth b c) : rth a c := tot_cmpL.strictL h (by unfold rth at h'; omega)
theorem chkR_some : ∀ (l : List Rw) (q : Rw), chkR (some q) l = true ↔ (∀ r, r ∈ l → rowV r = true) ∧ (q :: l).Pairwise rth
  | [], q => by simp [chkR]
  | n :: t, q => by
    rw [chkR, Bool.and_eq_true, Bool.and_eq_true, decide_eq_true_eq, chkR_some t n, List.pairwise_cons (a := q)]
    constructor
    · rintro ⟨h1, h2, h3, h4⟩
      refine ⟨fun x hx => ?_, fun x hx => ?_, h4⟩
      · rcases List.mem_cons.1 hx with rfl | hx
        · exact h1
        · exact h3 x hx
      · rcases List.mem_cons.1 hx with rfl | hx
        · exact h2
        · exact rth_trans h2 ((List.pairwise_cons.1 h4).1 x hx)
    · rintro ⟨h1, h2, h3⟩
      exact ⟨h1 n (by simp), h2 n (by simp), fun x hx => h1 x (List.mem_cons_of_mem _ hx), h3⟩
theorem chkR_iff (l : List Rw) : chkR none l = true ↔ (∀ r, r ∈ l → rowV r = true) ∧ l.Pairwise rth := by
  cases l with
  | nil => simp [chkR]
  | cons n t =>
    rw [chkR, Bool.and_eq_true, chkR_some]
    constructor
    · rintro ⟨h1, h2, h3⟩
      refine ⟨fun x hx => ?_, h3⟩
      rcases List.mem_cons.1 hx with rfl | hx
      · exact h1
      · exact h2 x hx
    · rintro ⟨h1, h2⟩
      exact ⟨h1 n (by simp), fun x hx => h1 x (List.mem_cons_of_mem _ hx), h2⟩
theorem cmpP_L (p q : ByteArray) : cmpP p q = cmpL (L p) (L q) := cmpP_if p q
theorem bs_at (l : List Rw) (p : ByteArray) (t : Nat) (hlt : ∀ i (h : i < l.length), i < t → cmpL (L l[i].f0) (L p) < 0) (hge : ∀ i (h : i < l.length), t ≤ i → ¬ cmpL (L l[i].f0) (L p) < 0) : ∀ n i j, j ≤ i + n → i ≤ t → t ≤ j → j ≤ l.length → bsGo l p n i j = t
  | 0, i, j, h1, h2, h3, h4 => by rw [bsGo]; omega
  | n + 1, i, j, h1, h2, h3, h4 => by
    rw [bsGo]
    by_cases hij : i < j
    · rw [if_pos hij, rdR_at l ((i + j) / 2) (by omega), cmpP_L]
      by_cases hc : cmpL (L l[(i + j) / 2].f0) (L p) < 0
      · rw [if_pos hc]
        have : (i + j) / 2 < t := Nat.lt_of_not_le fun h => hge _ (by omega) h hc
        exact bs_at l p t hlt hge n _ _ (by omega) (by omega) h3 h4
      · rw [if_neg hc]
        have : t ≤ (i + j) / 2 := Nat.le_of_not_lt fun h => hc (hlt _ (by omega) h)
        exact bs_at l p t hlt hge n _ _ (by omega) h2 (by omega) (by omega)
    · rw [if_neg hij]; omega
theorem find_at (l : List Rw) (hp : l.Pairwise rth) (t : Nat) (ht : t < l.length) (hl : l.length ≤ 1000000) : tally_find.f l l[t].f0 = some ((t : Int), true) := by
  have hpw := List.pairwise_iff_getElem.1 hp
  have e : bsR l l[t].f0 = t := bs_at l l[t].f0 t (fun i h hi => hpw i t h ht hi) (fun i h hi hc => by
    rcases Nat.lt_or_eq_of_le hi with h2 | h2
    · have := hpw t i ht h h2
      unfold rth at this
      rw [cmpL_flip] at this
      omega
    · subst h2
      rw [cmpL_self] at hc
      omega) l.length 0 l.length (by omega) (by omega) (by omega) (by omega)
  unfold tally_find.f hasR
  rw [if_pos (by omega), e, rdR_at l t ht, cmpP_L, cmpL_self, decide_eq_true ht]
  rfl
/-- A row's node: its last version. -/
def bldN (r : Rw) : Nd := ⟨r.f0, rdOf ByteArray.empty r.f1 ((r.f1.length : Int) - 1)⟩
theorem best_ok (l : List Rw) (hS : smallR l) (hl : l.length ≤ 1000000) (h : chkR none l = true) (t : Nat) (ht : t < l.length) : Ev (fun k => tally_Best.f k l l[t].f0) ((bldN l[t]).f1, 0) := by
  obtain ⟨h1, h2⟩ := (chkR_iff l).1 h
  have hs := hS l[t] (List.getElem_mem ht)
  have hr := h1 l[t] (List.getElem_mem ht)
  unfold rowV at hr
  simp only [Bool.and_eq_true, Bool.not_eq_true', List.isEmpty_eq_false_iff] at hr
  have hne : 0 < l[t].f1.length := List.length_pos_iff.2 hr.2.1
  have hm := May_ev l[t].f0 (by have := hs.1; omega)
  rw [hr.1] at hm
  have hc := tallyCheck_ev l hS hl
  rw [h] at hc
  unfold tally_Best.f
  refine ev_bind hc (ev_pos rfl (ev_bind hm ?_))
  refine ev_step (fun k => by rw [tally_Best.j0]) (ev_neg (by decide) ?_)
  rw [find_at l h2 t ht hl]
  have hw : wrap64 ((l[t].f1.length : Int) - 1) = (l[t].f1.length : Int) - 1 := w_small (by omega) (by have := hs.2.1; omega)
  refine ev_some (ev_pos rfl (ev_pos (by omega) (ev_pos (by omega) ?_)))
  rw [rdR_at l t ht, hw]
  exact ev_pos (by omega) (ev_pos (by omega) (ev_now rfl))
theorem bld_loop (l : List Rw) (hS : smallR l) (hl : l.length ≤ 1000000) (h : chkR none l = true) (d : Nat) : ∀ (i : Nat) (p : List Nd), i + d = l.length → p.length = i → Ev (fun k => list_Build.l0 k l p l l.length i) (p ++ (l.drop i).map bldN, 0) := by
  induction d with
  | zero =>
    intro i p hi hp
    rw [List.drop_eq_nil_of_le (by omega), List.map_nil, List.append_nil]
    refine ev_step (fun k => by rw [list_Build.l0]) ?_
    exact ev_neg (by omega) (ev_now rfl)
  | succ d ih =>
    intro i p hi hp
    have hil : i < l.length := by omega
    rw [List.drop_eq_getElem_cons hil, List.map_cons]
    refine ev_step (fun k => by rw [list_Build.l0]) ?_
    refine ev_pos (by omega) (ev_pos (by omega) (ev_pos (by omega) ?_))
    rw [rdR_at l i hil, w_succ i (by omega)]
    refine ev_bind (best_ok l hS hl h i hil) (ev_pos rfl (ev_pos (by omega) ?_))
    have hh := ih (i + 1) (p ++ [bldN l[i]]) (by omega) (by simp [hp])
    rw [List.append_assoc] at hh
    exact hh
theorem build_ok (l : List Rw) (hS : smallR l) (hl : l.length ≤ 1000000) (h : chkR none l = true) : Ev (fun k => list_Build.f k l) (l.map bldN, 0) := by
  unfold list_Build.f
  exact bld_loop l hS hl h l.length 0 [] (by omega) rfl
/-! ### Pick -/
def pickR (p : ByteArray) : List Nd → ByteArray × Int
  | [] => (⟨#[]⟩, 2)
  | n :: t => if n.f0 = p then (n.f1, 0) else pickR p t
theorem pick_loop (l : List Nd) (p : ByteArray) (hl : l.length ≤ 1000000) (d : Nat) : ∀ i : Nat, i + d = l.length → Ev (fun k => list_Pick.l0 k p l l.length i) (pickR p (l.drop i)) := by
  induction d with
  | zero =>
    intro i hi
    rw [List.drop_eq_nil_of_le (by omega)]
    refine ev_step (fun k => by rw [list_Pick.l0]) ?_
    exact ev_neg (by omega) (ev_now rfl)
  | succ d ih =>
    intro i hi
    have hil : i < l.length := by omega
    rw [List.drop_eq_getElem_cons hil, pickR]
    refine ev_step (fun k => by rw [list_Pick.l0]) ?_
    refine ev_pos (by omega) (ev_pos (by omega) (ev_pos (by omega) ?_))
    rw [rdN_at l i hil, w_succ i (by omega)]
    refine ev_ite (fun h => ?_) (fun h => ?_)
    · rw [if_pos ((path_eq _ _).1 h)]; exact ev_now rfl
    · rw [if_neg (fun e => h ((path_eq _ _).2 e))]; exact ih (i + 1) (by omega)
theorem pick_ev (l : List Nd) (p : ByteArray) (hS : smallL l) (hl : l.length ≤ 1000000) (hp : p.size ≤ 1000000) : Ev (fun k => list_Pick.f k l p) (if (okB l && isPath (L p)) = true then pickR p l else (⟨#[]⟩, 1)) := by
  have bad : Ev (fun k => list_Pick.j0 k l p true) (⟨#[]⟩, 1) := ev_step (fun k => by rw [list_Pick.j0]) (ev_pos rfl (ev_now rfl))
  unfold list_Pick.f
  refine ev_bind (listCheck_ev l hS hl) ?_
  cases okB l with
  | false => exact ev_neg (by decide) bad
  | true =>
    refine ev_pos rfl (ev_bind (May_ev p (by omega)) ?_)
    cases isPath (L p) with
    | false => exact bad
    | true =>
      refine ev_step (fun k => by rw [list_Pick.j0]) (ev_neg (by decide) ?_)
      exact pick_loop l p hl l.length 0 (by omega)
/-! ### the chapter's examples -/
def exV : ByteArray := ⟨#[118, 49, 46, 48, 46, 48]⟩
def exW : ByteArray := ⟨#[118, 49, 46, 49, 46, 48]⟩
def exR : Rw := ⟨⟨#[97]⟩, [exV, exW]⟩
def exA : Nd := ⟨⟨#[97]⟩, exV⟩
def exB : Nd := ⟨⟨#[98]⟩, exV⟩
theorem exR_ok : chkR none [exR] = true := by decide
theorem exR_sm : smallR [exR] := by
  intro r hr
  obtain rfl := List.mem_singleton.1 hr
  unfold smR exR exV exW
  decide
theorem exA_ok : okB [exA] = true := by decide
theorem exB_ok : okB [exB] = true := by decide
theorem ex_sm {n : Nd} (h : n.f0.size ≤ 400 ∧ n.f1.size ≤ 400) : smallL [n] := fun x hx => by
  obtain rfl := List.mem_singleton.1 hx
  exact h
theorem ex_delta : (deltaL [exA] [exB]).length = 2 := by
  have h1 : cmpP exA.f0 exB.f0 = -1 := by rw [cmpP_L]; decide
  have hne : ¬ exA.f0 = exB.f0 := by decide
  have hne' : ¬ exB.f0 = exA.f0 := by decide
  have hp : pathsL ([exA] ++ [exB]) = [exA.f0, exB.f0] := by
    simp only [pathsL, List.cons_append, List.nil_append, List.foldl_cons, List.foldl_nil, insP]
    rw [h1, if_pos (by decide)]
  have c1 : chgL [exA] [exB] exA.f0 = some ⟨exA.f0, exV, ⟨#[]⟩⟩ := by
    unfold chgL lastL
    simp only [List.foldl_cons, List.foldl_nil, if_neg hne', if_pos]
    rw [if_neg (by rw [path_eq]; decide)]
    rfl
  have c2 : chgL [exA] [exB] exB.f0 = some ⟨exB.f0, ⟨#[]⟩, exV⟩ := by
    unfold chgL lastL
    simp only [List.foldl_cons, List.foldl_nil, if_neg hne, if_pos]
    rw [if_neg (by rw [path_eq]; decide)]
    rfl
  unfold deltaL
  rw [hp, List.filterMap_cons, c1, List.filterMap_cons, c2]
  rfl
theorem awake17_ev : Ev (fun k => graftwoodlaw17_awake.f k) true := by
  unfold graftwoodlaw17_awake.f
  have sa : smallL [exA] := ex_sm (by unfold exA exV; decide)
  have sb : smallL [exB] := ex_sm (by unfold exB exV; decide)
  have hb : smallL ([exR].map bldN) := ex_sm (n := bldN exR) (by decide)
  have hk : okB ([exR].map bldN) = true := by decide
  refine ev_bind (build_ok [exR] exR_sm (by simp) exR_ok) ?_
  refine ev_bind (delta_ok [exA] [exB] sa sb (by simp) (by simp) (by rw [exA_ok, exB_ok]; rfl)) ?_
  refine ev_bind (pick_ev ([exR].map bldN) ⟨#[98]⟩ hb (by simp) (by decide)) ?_
  refine ev_pos rfl (ev_pos (by decide) (ev_pos ?_ (ev_pos rfl (ev_pos ?_ (ev_pos rfl (ev_now ?_))))))
  · rw [toList_L]; decide
  · rw [ex_delta]; rfl
  · rw [hk]; decide
end Go.Proofs.YtknmfmedklfepaaGreatDoor.Q

/-
  What Above comes to, and nodes held against themselves.
-/
namespace Go.Proofs.YtknmfmedklfepaaGreatDoor.Q
open Go.RowKit Go.Proofs.YtknmfmedklfepaaGreatDoor.P Go.Proofs.YtknmfmedklfepaaGreatDoorB Go.Proofs.YtknmfmedklfepaaGreatDoorW.PrintWords Go.Proofs.YtknmfmedklfepaaGreatDoorW.PrintLast Go.Proofs.YtknmfmedklfepaaGreatDoorW.PrintMore
set_option linter.unusedSimpArgs false
set_option linter.unusedVariables false
theorem ne_nd (x : Nd) : (!(x.f0.toList == x.f0.toList) || (!(x.f1.toList == x.f1.toList))) = false := by simp
theorem same5_self (a : List Nd) (hl : a.length ≤ 1000000) (d : Nat) : ∀ i : Nat, i + d = a.length → Ev (fun k => graftwoodref05_Same.l0 k a a i) true := by
  induction d with
  | zero =>
    intro i hi
    refine ev_step (fun k => by rw [graftwoodref05_Same.l0]) ?_
    exact ev_neg (by omega) (ev_now rfl)
  | succ d ih =>
    intro i hi
    have ha : i < a.length := by omega
    refine ev_step (fun k => by rw [graftwoodref05_Same.l0]) ?_
    refine ev_pos (by omega) (ev_pos (by omega) (ev_pos (by omega) ?_))
    rw [rdN_at a i ha, ne_nd, w_succ i (by omega)]
    exact ev_neg (by decide) (ih (i + 1) (by omega))
end Go.Proofs.YtknmfmedklfepaaGreatDoor.Q

/-
  What changes and Apply come to; a difference, applied.
-/
namespace Go.Proofs.YtknmfmedklfepaaGreatDoor.Q
open Go.RowKit Go.Proofs.YtknmfmedklfepaaGreatDoor.P Go.Proofs.YtknmfmedklfepaaGreatDoorB Go.Proofs.YtknmfmedklfepaaGreatDoorW.PrintWords Go.Proofs.YtknmfmedklfepaaGreatDoorW.PrintLast Go.Proofs.YtknmfmedklfepaaGreatDoorW.PrintMore
set_option linter.unusedSimpArgs false
set_option linter.unusedVariables false
abbrev Ch := S75
theorem rdC_at (l : List Ch) (i : Nat) (h : i < l.length) : rd_T75 l (i : Int) = l[i] := by
  simp [rd_T75, List.getD_eq_getElem?_getD, h]
def smC (x : Ch) : Prop := x.f0.size ≤ 400 ∧ x.f1.size ≤ 400 ∧ x.f2.size ≤ 400
def smallC (c : List Ch) : Prop := ∀ x, x ∈ c → smC x
theorem okC_few (c : List Ch) (hS : smallC c) (hl : c.length ≤ 1000000) : okC c = true := by
  unfold okC
  rw [Bool.and_eq_true, decide_eq_true_eq, List.all_eq_true]
  exact ⟨by omega, fun x hx => decide_eq_true (by have := (hS x hx).1; omega)⟩
theorem noneV_ev (v : ByteArray) (hv : v.size ≤ 400) : Ev (fun k => noneV k v) (!(decide (L v = []) || verOk (L v))) := by
  unfold noneV
  refine ev_ite (fun h => ?_) (fun h => ?_)
  · rw [toList_L] at h
    rw [decide_eq_true h]; exact ev_now rfl
  · rw [toList_L] at h
    rw [decide_eq_false h, Bool.false_or]
    exact ev_bind (verMay_ev v (by omega)) (ev_now rfl)
theorem bytes_lt (x y : ByteArray) : Op.bytesLess x.toList y.toList = decide (cmpL (L x) (L y) < 0) := by
  rw [toList_L, toList_L, less_eq]
  exact decide_eq_decide.2 cmpL_neg.symm
/-- A change that may be, behind one of path q. -/
def chgOk (q : Option ByteArray) (x : Ch) : Bool := isPath (L x.f0) && ((decide (L x.f1 = []) || verOk (L x.f1)) && ((decide (L x.f2 = []) || verOk (L x.f2)) && (!decide (x.f1 = x.f2) && (match q with | none => true | some y => decide (cmpL (L y) (L x.f0) < 0)))))
def chgsOk : Option ByteArray → List Ch → Bool
  | _, [] => true
  | q, x :: c => chgOk q x && chgsOk (some x.f0) c
theorem chgOne_ev (q : Option ByteArray) (x : Ch) (hS : smC x) : Ev (fun k => chgOne k q x) (chgOk q x) := by
  unfold chgOne chgOk
  refine ev_bind (May_ev x.f0 (by have := hS.1; omega)) ?_
  cases isPath (L x.f0) with
  | false => exact ev_neg (by decide) (ev_now rfl)
  | true =>
    rw [Bool.true_and]
    refine ev_pos rfl (ev_bind (noneV_ev x.f1 hS.2.1) ?_)
    cases (decide (L x.f1 = []) || verOk (L x.f1)) with
    | false => exact ev_pos rfl (ev_now rfl)
    | true =>
      rw [Bool.true_and]
      refine ev_neg (by decide) (ev_bind (noneV_ev x.f2 hS.2.2) ?_)
      cases (decide (L x.f2 = []) || verOk (L x.f2)) with
      | false => exact ev_pos rfl (ev_now rfl)
      | true =>
        rw [Bool.true_and]
        refine ev_neg (by decide) (ev_ite (fun h => ?_) (fun h => ?_))
        · rw [decide_eq_true ((path_eq _ _).1 h)]; exact ev_now rfl
        · rw [decide_eq_false (fun e => h ((path_eq _ _).2 e)), Bool.not_false, Bool.true_and]
          refine ev_now ?_
          cases q with
          | none => rfl
          | some y => exact bytes_lt y x.f0
theorem chgs_ev : ∀ (c : List Ch) (q : Option ByteArray), smallC c → Ev (fun k => chgsF k q c) (chgsOk q c)
  | [], q, _ => by
    have e : ∀ k, chgsF k q [] = some true := fun k => by cases q <;> rfl
    simp only [e]
    exact ev_now (by cases q <;> rfl)
  | x :: c, q, hS => by
    have e : ∀ k, chgsF k q (x :: c) = (chgOne k q x).bind fun b => if b = true then chgsF k (some x.f0) c else some false := fun k => by cases q <;> rfl
    have e2 : chgsOk q (x :: c) = (chgOk q x && chgsOk (some x.f0) c) := by cases q <;> rfl
    simp only [e]
    rw [e2]
    refine ev_bind (chgOne_ev q x (hS x (by simp))) ?_
    cases chgOk q x with
    | false => exact ev_neg (by decide) (ev_now rfl)
    | true => exact ev_pos rfl (chgs_ev c _ fun y hy => hS y (List.mem_cons_of_mem _ hy))
theorem apply_ev (l : List Nd) (c : List Ch) (sl : smallL l) (sc : smallC c) (ll : l.length ≤ 1000000) (lc : c.length ≤ 1000000) : Ev (fun k => list_Apply.f k l c) (if (okB l && chgsOk none c) = true then aplR l c else ([], 1)) := by
  have hn : okB [] = true := by decide
  have hb := both_ev l [] sl (fun n h => by simp at h) ll (by simp)
  rw [hn, Bool.and_true] at hb
  unfold list_Apply.f
  refine ev_pos (okC_few c sc lc) (ev_bind hb ?_)
  cases okB l with
  | false => exact ev_neg (by decide) (ev_now rfl)
  | true =>
    refine ev_pos rfl (ev_bind (chgs_ev c none sc) ?_)
    cases chgsOk none c with
    | false => exact ev_neg (by decide) (ev_now rfl)
    | true => exact ev_pos rfl (ev_now rfl)
/-! ### sorted lists of the same members -/
theorem sorted_ext {α : Type} {R : α → α → Prop} (irr : ∀ a, ¬ R a a) (tr : ∀ a b c, R a b → R b c → R a c) : ∀ (l m : List α), l.Pairwise R → m.Pairwise R → (∀ x, x ∈ l ↔ x ∈ m) → l = m
  | [], [], _, _, _ => rfl
  | [], y :: m, _, _, h => absurd ((h y).2 (by simp)) (by simp)
  | x :: l, [], _, _, h => absurd ((h x).1 (by simp)) (by simp)
  | x :: l, y :: m, hl, hm, h => by
    obtain ⟨h1, h2⟩ := List.pairwise_cons.1 hl
    obtain ⟨h3, h4⟩ := List.pairwise_cons.1 hm
    have e : x = y := by
      rcases List.mem_cons.1 ((h x).1 (by simp)) with e | hx
      · exact e
      · rcases List.mem_cons.1 ((h y).2 (by simp)) with e | hy
        · exact e.symm
        · exact absurd (tr _ _ _ (h1 y hy) (h3 x hx)) (irr x)
    subst e
    rw [sorted_ext irr tr l m h2 h4 fun z => ?_]
    constructor
    · intro hz
      rcases List.mem_cons.1 ((h z).1 (List.mem_cons_of_mem _ hz)) with e | h5
      · subst e; exact absurd (h1 z hz) (irr z)
      · exact h5
    · intro hz
      rcases List.mem_cons.1 ((h z).2 (List.mem_cons_of_mem _ hz)) with e | h5
      · subst e; exact absurd (h3 z hz) (irr z)
      · exact h5
theorem ltP_irr (a : ByteArray) : ¬ ltP a a := List.lt_irrefl _
theorem ltP_iff (a b : ByteArray) : ltP a b ↔ cmpL (L a) (L b) < 0 := cmpL_neg.symm
/-! ### a difference, applied -/
def toN (x : Ch) : Nd := ⟨x.f0, x.f2⟩
theorem lastL_out {l : List Nd} {p : ByteArray} (h : ∀ n, n ∈ l → n.f0 ≠ p) : lastL p l = ⟨#[]⟩ := lastG_none h
theorem aplL_of {s b : List Nd} (hb : okB b = true) (hl : ∀ p, lastL p s = lastL p b) (hm : ∀ n, n ∈ b → ∃ m, m ∈ s ∧ m.f0 = n.f0) : aplL s = b := by
  obtain ⟨ob, pb⟩ := (okB_iff b).1 hb
  have hok : ∀ n, n ∈ b → ¬ n.f1.toList = [] := fun n hn e => by
    have := ob n hn
    unfold nodeOk at this
    rw [Bool.and_eq_true] at this
    rw [toList_L] at e
    exact ver_ne this.2 e
  refine sorted_ext (R := pth) (fun a h => by unfold pth at h; rw [cmpL_self] at h; omega) (fun a b c => pth_trans) _ _ ?_ pb fun n => ?_
  · unfold aplL
    refine List.pairwise_filterMap.2 ((pathsL_sorted s).imp fun {p q} h x hx y hy => ?_)
    have e : ∀ {p : ByteArray} {x : Nd}, aplN s p = some x → x.f0 = p := fun {p x} h => by
      unfold aplN at h
      split at h
      · cases h
      · obtain rfl := Option.some.inj h; rfl
    unfold pth
    rw [e hx, e hy]
    exact (ltP_iff _ _).1 h
  · unfold aplL
    rw [List.mem_filterMap]
    constructor
    · rintro ⟨p, hp, h⟩
      unfold aplN at h
      rw [hl p, lastL_pick pb] at h
      rcases pickL_cases p b with ⟨h1, -⟩ | ⟨m, hm, rfl, h2⟩
      · rw [h1, if_pos (by rw [toList_L]; rfl)] at h; cases h
      · rw [h2, if_neg (hok m hm)] at h
        obtain rfl := Option.some.inj h
        exact hm
    · intro hn
      obtain ⟨m, hms, e⟩ := hm n hn
      refine ⟨n.f0, (pathsL_mem _ _).2 ⟨m, hms, e⟩, ?_⟩
      unfold aplN
      rw [hl, lastL_pick pb, pickL_mem pb hn, if_neg (hok n hn)]
/-! ### turned about -/
def sw (x : Ch) : Ch := ⟨x.f0, x.f2, x.f1⟩
/-! ### Few -/
def fewC (x : Ch) : Ch := ⟨few x.f0, few x.f1, few x.f2⟩
theorem fewC_small (c : List Ch) : smallC ((c.take 20).map fewC) := fun x hx => by
  obtain ⟨y, -, rfl⟩ := List.mem_map.1 hx
  exact ⟨few_size _, few_size _, few_size _⟩
theorem few17_loop (l : List Ch) (d : Nat) : ∀ (i : Nat) (p : List Ch), i + d = min l.length 20 → p.length = i → Ev (fun k => graftwoodlaw17_Few.l0 k l p i) (p ++ ((l.take 20).drop i).map fewC) := by
  induction d with
  | zero =>
    intro i p hi hp
    have hd : (l.take 20).drop i = [] := List.drop_eq_nil_of_le (by rw [List.length_take]; omega)
    rw [hd, List.map_nil, List.append_nil]
    have fin : ∀ v : Bool, v = false → Ev (fun k => graftwoodlaw17_Few.j1 k l p i v) p := fun v hv => ev_step (fun k => by rw [graftwoodlaw17_Few.j1]) (ev_neg (by rw [hv]; decide) (ev_now rfl))
    refine ev_step (fun k => by rw [graftwoodlaw17_Few.l0]) ?_
    exact ev_ite (fun h => fin _ (decide_eq_false (by omega))) (fun _ => fin _ rfl)
  | succ d ih =>
    intro i p hi hp
    have hil : i < l.length := by omega
    refine ev_step (fun k => by rw [graftwoodlaw17_Few.l0]) ?_
    refine ev_pos (by omega) (ev_step (fun k => by rw [graftwoodlaw17_Few.j1]) (ev_pos (decide_eq_true (by omega)) (ev_pos (by omega) (ev_pos (by omega) ?_))))
    rw [rdC_at l i hil, Few_eq, Few_eq, Few_eq, w_succ i (by omega)]
    refine ev_some (ev_some (ev_some (ev_pos (by omega) ?_)))
    have h := ih (i + 1) (p ++ [fewC l[i]]) (by omega) (by simp [hp])
    have hd : (l.take 20).drop i = l[i] :: (l.take 20).drop (i + 1) := by
      rw [List.drop_eq_getElem_cons (by rw [List.length_take]; omega), List.getElem_take]
    rw [hd, List.map_cons]
    rw [List.append_assoc] at h
    exact h
theorem few17_ev (l : List Ch) : Ev (fun k => graftwoodlaw17_Few.f k l) ((l.take 20).map fewC) := by
  unfold graftwoodlaw17_Few.f
  exact few17_loop l (min l.length 20) 0 [] (by omega) rfl
end Go.Proofs.YtknmfmedklfepaaGreatDoor.Q

/-
  The pure statement of ListChanges.
-/
namespace Go.Proofs.YtknmfmedklfepaaGreatDoor.Pure
open Go.RowKit Go.Proofs.YtknmfmedklfepaaGreatDoor.P Go.Proofs.YtknmfmedklfepaaGreatDoor.Q Go.Proofs.YtknmfmedklfepaaGreatDoorB Go.Proofs.YtknmfmedklfepaaGreatDoorW.PrintWords Go.Proofs.YtknmfmedklfepaaGreatDoorW.PrintLast Go.Proofs.YtknmfmedklfepaaGreatDoorW.PrintMore
set_option linter.unusedSimpArgs false
set_option linter.unusedVariables false
/-! ### the reference's paths -/
theorem insP_pre (p : ByteArray) (B : List ByteArray) : ∀ A : List ByteArray, (∀ q, q ∈ A → cmpL (L q) (L p) < 0) → insP p (A ++ B) = A ++ insP p B
  | [], _ => rfl
  | q :: A, h => by
    have h1 := h q (by simp)
    rw [← cmpP_L] at h1
    rw [List.cons_append, insP, if_pos h1, insP_pre p B A fun x hx => h x (List.mem_cons_of_mem _ hx), List.cons_append]
theorem put_eq (p e : ByteArray) (A B : List ByteArray) : (shL (A ++ B ++ [e]) A.length).set A.length p = A ++ p :: B := by
  have h1 : ((A ++ B ++ [e]).drop A.length).take ((A ++ B ++ [e]).length - (A.length + 1)) = B := by
    rw [List.append_assoc, List.drop_left, List.take_left' (by simp only [List.length_append, List.length_cons, List.length_nil]; omega)]
  unfold shL
  rw [h1]
  obtain ⟨h, hh⟩ : ∃ h, (A ++ B ++ [e]).take (A.length + 1) = A ++ [h] := by
    cases B with
    | nil => exact ⟨e, by rw [List.append_nil, List.take_of_length_le (by simp)]⟩
    | cons b B => exact ⟨b, by rw [List.append_assoc, List.cons_append, show A ++ b :: (B ++ [e]) = (A ++ [b]) ++ (B ++ [e]) by simp, List.take_left' (by simp)]⟩
  rw [hh, List.append_assoc, List.set_append_right _ _ (Nat.le_refl _), Nat.sub_self]
  rfl
theorem rp_put (l : List Nd) (i : Nat) (p : ByteArray) (A B : List ByteArray) (r : List ByteArray) (hp : p = p) (ho : (A ++ B).length ≤ 1000) (h : Ev (fun k => graftwoodref17_paths.l0 k (A ++ p :: B) l ((i + 1 : Nat) : Int)) r) (hi : i ≤ 1000) :
    Ev (fun k => graftwoodref17_paths.l0 k ((shL ((A ++ B) ++ [(⟨#[]⟩ : ByteArray)]) ((A.length : Int)).toNat).set ((A.length : Int)).toNat p) l (wrap64 ((i : Int) + 1))) r := by
  rw [Int.toNat_natCast, put_eq, w_succ i (by omega)]
  exact h
theorem rp_in (l : List Nd) (hS : smallL l) (hl : l.length ≤ 1000) (i : Nat) (hil : i < l.length) (out : List ByteArray) (ho : out.length ≤ 1000) (sm : ∀ q, q ∈ out → q.size ≤ 400) (r : List ByteArray)
    (hr : Ev (fun k => graftwoodref17_paths.l0 k (insP l[i].f0 out) l ((i + 1 : Nat) : Int)) r) : ∀ (B A : List ByteArray), out = A ++ B → (∀ q, q ∈ A → cmpL (L q) (L l[i].f0) < 0) → Ev (fun k => graftwoodref17_paths.l1 k out l i A.length) r
  | [], A, he, hA => by
    subst he
    rw [insP_pre _ _ _ hA] at hr
    have hlen : (shL ((A ++ []) ++ [(⟨#[]⟩ : ByteArray)]) ((A.length : Int)).toNat).length = (A ++ []).length + 1 := by rw [shL_len _ _ (by simp)]; simp
    have hal : (A ++ []).length = A.length := by simp
    refine ev_step (fun k => by rw [graftwoodref17_paths.l1]) ?_
    rw [rdN_at l i hil, w_succ A.length (by omega)]
    refine ev_neg (by omega) (ev_pos (by omega) (ev_some (ev_pos (by omega) (ev_pos (by simp only [List.length_append, List.length_cons, List.length_nil]; omega) (ev_pos (by omega) (ev_pos (by simp only [List.length_append, List.length_cons, List.length_nil]; omega) (ev_some (ev_pos (by omega) (ev_pos (by omega) (ev_pos (by rw [hlen]; omega) ?_))))))))))
    exact rp_put l i l[i].f0 A [] r rfl ho hr (by omega)
  | b :: B, A, he, hA => by
    have hal : A.length < out.length := by rw [he]; simp
    have hb : out[A.length] = b := by simp [he]
    have hlen : (shL (out ++ [(⟨#[]⟩ : ByteArray)]) ((A.length : Int)).toNat).length = out.length + 1 := by rw [shL_len _ _ (by rw [Int.toNat_natCast, List.length_append]; omega), List.length_append]; rfl
    have hins := insP_pre l[i].f0 (b :: B) A hA
    refine ev_step (fun k => by rw [graftwoodref17_paths.l1]) ?_
    rw [rdN_at l i hil, rdOf_at _ _ _ hal, hb, w_succ A.length (by omega)]
    refine ev_pos (by omega) (ev_pos (by omega) (ev_pos (by omega) (ev_pos (by omega) (ev_bind (refCmp_ev b l[i].f0 (by have := sm b (by rw [he]; simp); omega)) ?_))))
    refine ev_ite (fun h => ?_) (fun h => ?_)
    · have hh := rp_in l hS hl i hil out ho sm r hr B (A ++ [b]) (by rw [he]; simp) (fun q hq => by
        rcases List.mem_append.1 hq with hq | hq
        · exact hA q hq
        · rw [List.mem_singleton.1 hq]; exact h)
      rw [List.length_append] at hh
      exact hh
    · have hc : ¬ cmpP b l[i].f0 < 0 := by rw [cmpP_L]; exact h
      rw [he, hins, insP, if_neg hc] at hr
      refine ev_ite (fun h2 => ?_) (fun h2 => ?_)
      · rw [if_pos ((path_eq _ _).1 h2)] at hr
        rw [w_succ i (by omega), he]
        exact hr
      · rw [if_neg (fun e => h2 ((path_eq _ _).2 e))] at hr
        refine ev_pos (by omega) (ev_some (ev_pos (by omega) (ev_pos (by simp only [List.length_append, List.length_cons, List.length_nil]; omega) (ev_pos (by simp only [List.length_append, List.length_cons, List.length_nil]; omega) (ev_some (ev_pos (by rw [hlen]; omega) ?_))))))
        have hq := rp_put l i l[i].f0 A (b :: B) r rfl (by rw [← he]; exact ho) hr (by omega)
        rw [← he] at hq
        exact hq
theorem rp_loop (l : List Nd) (hS : smallL l) (hl : l.length ≤ 900) (d : Nat) : ∀ (i : Nat) (out : List ByteArray), i + d = l.length → out.length ≤ i → (∀ q, q ∈ out → q.size ≤ 400) → Ev (fun k => graftwoodref17_paths.l0 k out l i) ((l.drop i).foldl (fun a n => insP n.f0 a) out) := by
  induction d with
  | zero =>
    intro i out hi ho sm
    rw [List.drop_eq_nil_of_le (by omega)]
    refine ev_step (fun k => by rw [graftwoodref17_paths.l0]) ?_
    exact ev_neg (by omega) (ev_now rfl)
  | succ d ih =>
    intro i out hi ho sm
    have hil : i < l.length := by omega
    rw [List.drop_eq_getElem_cons hil, List.foldl_cons]
    refine ev_step (fun k => by rw [graftwoodref17_paths.l0]) ?_
    refine ev_pos (by omega) ?_
    exact rp_in l hS (by omega) i hil out (by omega) sm _ (ih (i + 1) (insP l[i].f0 out) (by omega) (by have := insP_len l[i].f0 out; omega) (fun q hq => by
      rcases (insP_mem _ _ _).1 hq with rfl | hq
      · exact (hS _ (List.getElem_mem hil)).1
      · exact sm q hq)) out [] rfl (fun q hq => by simp at hq)
theorem refPaths_ev (a b : List Nd) (sa : smallL a) (sb : smallL b) (la : a.length ≤ 400) (lb : b.length ≤ 400) : Ev (fun k => graftwoodref17_paths.f k a b) (pathsL (a ++ b)) := by
  unfold graftwoodref17_paths.f
  refine ev_some (ev_pos (by simp only [List.length_nil]; omega) (ev_some (ev_pos (by simp only [List.nil_append]; omega) ?_)))
  have h := rp_loop (a ++ b) (fun n hn => (List.mem_append.1 hn).elim (sa n) (sb n)) (by rw [List.length_append]; omega) (a ++ b).length 0 [] (by omega) (by simp) (fun q hq => by simp at hq)
  exact h
/-! ### the reference's Delta -/
theorem rdl_loop (a b : List Nd) (ha : okB a = true) (hb : okB b = true) (la : a.length ≤ 400) (lb : b.length ≤ 400) (ps : List ByteArray) (hl : ps.length ≤ 1000) (d : Nat) : ∀ (i : Nat) (acc : List Ch), i + d = ps.length → acc.length ≤ i → Ev (fun k => graftwoodref17_Delta.l0 k a b acc ps i) (acc ++ (ps.drop i).filterMap (chgL a b)) := by
  induction d with
  | zero =>
    intro i acc hi hc
    rw [List.drop_eq_nil_of_le (by omega), List.filterMap_nil, List.append_nil]
    refine ev_step (fun k => by rw [graftwoodref17_Delta.l0]) ?_
    exact ev_neg (by omega) (ev_now rfl)
  | succ d ih =>
    intro i acc hi hc
    have hil : i < ps.length := by omega
    have h1 := refPick_ev a ps[i] (by omega)
    have h2 := refPick_ev b ps[i] (by omega)
    rw [← lastL_pick ((okB_iff a).1 ha).2] at h1
    rw [← lastL_pick ((okB_iff b).1 hb).2] at h2
    rw [List.drop_eq_getElem_cons hil]
    refine ev_step (fun k => by rw [graftwoodref17_Delta.l0]) ?_
    rw [rdOf_at _ _ i hil, w_succ i (by omega)]
    refine ev_pos (by omega) (ev_pos (by omega) (ev_bind h1 (ev_bind h2 (ev_ite (fun h => ?_) (fun h => ?_)))))
    · have e : chgL a b ps[i] = none := by unfold chgL; rw [if_pos h]
      rw [List.filterMap_cons, e]
      exact ih (i + 1) acc (by omega) (by omega)
    · have e : chgL a b ps[i] = some ⟨ps[i], lastL ps[i] a, lastL ps[i] b⟩ := by unfold chgL; rw [if_neg h]
      rw [List.filterMap_cons, e]
      have hh := ih (i + 1) (acc ++ [⟨ps[i], lastL ps[i] a, lastL ps[i] b⟩]) (by omega) (by simp; omega)
      rw [List.append_assoc] at hh
      exact ev_pos (by omega) hh
theorem refDelta_ev (a b : List Nd) (ha : okB a = true) (hb : okB b = true) (sa : smallL a) (sb : smallL b) (la : a.length ≤ 400) (lb : b.length ≤ 400) : Ev (fun k => graftwoodref17_Delta.f k a b) (deltaL a b) := by
  unfold graftwoodref17_Delta.f
  refine ev_bind (refPaths_ev a b sa sb la lb) ?_
  have h := pathsL_len (a ++ b)
  rw [List.length_append] at h
  exact rdl_loop a b ha hb la lb (pathsL (a ++ b)) (by omega) (pathsL (a ++ b)).length 0 [] (by omega) (by simp)
theorem ne_ch (x : Ch) : (!(x.f0.toList == x.f0.toList) || (!(x.f1.toList == x.f1.toList) || (!(x.f2.toList == x.f2.toList)))) = false := by simp
theorem sameC_loop (a : List Ch) (hl : a.length ≤ 1000000) (d : Nat) : ∀ i : Nat, i + d = a.length → Ev (fun k => graftwoodref17_SameChanges.l0 k a a i) true := by
  induction d with
  | zero =>
    intro i hi
    refine ev_step (fun k => by rw [graftwoodref17_SameChanges.l0]) ?_
    exact ev_neg (by omega) (ev_now rfl)
  | succ d ih =>
    intro i hi
    have ha : i < a.length := by omega
    refine ev_step (fun k => by rw [graftwoodref17_SameChanges.l0]) ?_
    refine ev_pos (by omega) (ev_pos (by omega) (ev_pos (by omega) ?_))
    rw [rdC_at a i ha, ne_ch, w_succ i (by omega)]
    exact ev_neg (by decide) (ih (i + 1) (by omega))
theorem sameC_ev (a : List Ch) (hl : a.length ≤ 1000000) : Ev (fun k => graftwoodref17_SameChanges.f k a a) true := by
  unfold graftwoodref17_SameChanges.f
  exact ev_pos rfl (sameC_loop a hl a.length 0 (by omega))
/-! ### the reference's Changes -/
theorem chgOk_cut (q : Option ByteArray) (x : Ch) (c : List Ch) : chgsOk q (x :: c) = (isPath (L x.f0) && ((decide (L x.f1 = []) || verOk (L x.f1)) && ((decide (L x.f2 = []) || verOk (L x.f2)) && (!decide (x.f1 = x.f2) && ((match q with | none => true | some y => decide (cmpL (L y) (L x.f0) < 0)) && chgsOk (some x.f0) c))))) := by
  have e : chgsOk q (x :: c) = (chgOk q x && chgsOk (some x.f0) c) := by cases q <;> rfl
  rw [e]
  unfold chgOk
  simp only [Bool.and_assoc]
  all_goals (cases q <;> rfl)
theorem may_cut (v : ByteArray) (hv : v.size ≤ 400) (f : Nat → Option Bool) (z : Bool) (h : Ev f z) : Ev (fun k => if v.toList = ([] : List UInt8) then f k else (graftwoodref03_May.f k v).bind fun b => if b = true then f k else some false) ((decide (L v = []) || verOk (L v)) && z) := by
  refine ev_ite (fun h0 => ?_) (fun h0 => ?_)
  · rw [toList_L] at h0
    rw [decide_eq_true h0]; exact h
  · rw [toList_L] at h0
    rw [decide_eq_false h0, Bool.false_or]
    refine ev_bind (refVerMay_ev v (by omega)) ?_
    cases verOk (L v) with
    | false => exact ev_neg (by decide) (ev_now rfl)
    | true => exact ev_pos rfl h
theorem rc_loop (c : List Ch) (hS : smallC c) (hl : c.length ≤ 1000) (d : Nat) : ∀ (i : Nat) (q : Option ByteArray), i + d = c.length → (i = 0 → q = none) → (∀ j (h : j < c.length), i = j + 1 → q = some c[j].f0) → Ev (fun k => graftwoodref17_Changes.l0 k c i) (chgsOk q (c.drop i)) := by
  induction d with
  | zero =>
    intro i q hi _ _
    rw [List.drop_eq_nil_of_le (by omega)]
    refine ev_step (fun k => by rw [graftwoodref17_Changes.l0]) ?_
    exact ev_neg (by omega) (ev_now (by cases q <;> rfl))
  | succ d ih =>
    intro i q hi h0 h1
    have hil : i < c.length := by omega
    have hj : ∀ j (h : j < c.length), i + 1 = j + 1 → some c[i].f0 = some c[j].f0 := fun j h e => by
      obtain rfl : j = i := by omega
      rfl
    have hn := ih (i + 1) (some c[i].f0) (by omega) (fun h => by omega) hj
    have sx := hS _ (List.getElem_mem hil)
    rw [List.drop_eq_getElem_cons hil, chgOk_cut]
    refine ev_step (fun k => by rw [graftwoodref17_Changes.l0]) ?_
    rw [rdC_at c i hil, w_succ i (by omega)]
    refine ev_pos (by omega) (ev_pos (by omega) (ev_bind (refMay4_ev c[i].f0 (by have := sx.1; omega)) ?_))
    cases isPath (L c[i].f0) with
    | false => exact ev_neg (by decide) (ev_now rfl)
    | true =>
      rw [Bool.true_and]
      refine ev_pos rfl (may_cut c[i].f1 sx.2.1 _ _ (may_cut c[i].f2 sx.2.2 _ _ ?_))
      refine ev_ite (fun h => ?_) (fun h => ?_)
      · rw [decide_eq_true ((path_eq _ _).1 h)]; exact ev_now rfl
      · rw [decide_eq_false (fun e => h ((path_eq _ _).2 e)), Bool.not_false, Bool.true_and]
        refine ev_ite (fun h2 => ?_) (fun h2 => ?_)
        · obtain ⟨j, rfl⟩ : ∃ j, i = j + 1 := ⟨i - 1, by omega⟩
          have hw : wrap64 (((j + 1 : Nat) : Int) - 1) = (j : Int) := by rw [w_small (by omega) (by omega)]; omega
          rw [hw, rdC_at c j (by omega), h1 j (by omega) rfl]
          refine ev_pos (by omega) (ev_pos (by omega) (ev_bind (refCmp_ev c[j].f0 c[j + 1].f0 (by have := (hS c[j] (List.getElem_mem (by omega))).1; omega)) (ev_ite (fun h3 => ?_) (fun h3 => ?_))))
          · dsimp only
            rw [decide_eq_false (by omega)]; exact ev_now rfl
          · dsimp only
            rw [decide_eq_true (by omega)]; exact hn
        · rw [h0 (by omega)]; exact hn
theorem refChanges_ev (c : List Ch) (hS : smallC c) (hl : c.length ≤ 1000) : Ev (fun k => graftwoodref17_Changes.f k c) (chgsOk none c) := by
  unfold graftwoodref17_Changes.f
  exact rc_loop c hS hl c.length 0 none (by omega) (fun _ => rfl) (fun j h e => by omega)
theorem chgs_inv : ∀ (c : List Ch) (q : Option ByteArray), chgsOk q c = true → (∀ x, x ∈ c → chgOk none x = true) ∧ c.Pairwise (fun x y => ltP x.f0 y.f0) ∧ ∀ y, q = some y → ∀ x, x ∈ c → ltP y x.f0
  | [], q, _ => ⟨fun x hx => by simp at hx, List.Pairwise.nil, fun y _ x hx => by simp at hx⟩
  | x :: c, q, h => by
    have e : chgsOk q (x :: c) = (chgOk q x && chgsOk (some x.f0) c) := by cases q <;> rfl
    rw [e, Bool.and_eq_true] at h
    obtain ⟨h1, h2, h3⟩ := chgs_inv c _ h.2
    have h4 := h.1
    have h5 : chgOk none x = true ∧ ∀ y, q = some y → ltP y x.f0 := by
      unfold chgOk at h4 ⊢
      simp only [Bool.and_eq_true] at h4 ⊢
      refine ⟨⟨h4.1, h4.2.1, h4.2.2.1, h4.2.2.2.1, trivial⟩, fun y hy => ?_⟩
      subst hy
      exact (ltP_iff _ _).2 (of_decide_eq_true h4.2.2.2.2)
    refine ⟨fun z hz => ?_, List.pairwise_cons.2 ⟨h3 _ rfl, h2⟩, fun y hy z hz => ?_⟩
    · rcases List.mem_cons.1 hz with rfl | hz
      · exact h5.1
      · exact h1 z hz
    · rcases List.mem_cons.1 hz with rfl | hz
      · exact h5.2 y hy
      · exact ltP_trans (h5.2 y hy) (h3 _ rfl z hz)
/-! ### the reference's Minus, With -/
theorem has_ev (m n : Nd) : Ev (fun k => graftwoodref05_Has.f k [m] n.f0 n.f1) (decide (m.f0 = n.f0 ∧ m.f1 = n.f1)) := by
  unfold graftwoodref05_Has.f
  refine ev_step (fun k => by rw [graftwoodref05_Has.l0]) ?_
  have e0 : rd_T55 [m] 0 = m := rdN_at [m] 0 (by simp)
  rw [e0, eq_nd]
  refine ev_pos (by simp) (ev_pos (by omega) ?_)
  refine ev_ite (fun h => ev_now (by rw [h])) (fun h => ?_)
  rw [Bool.not_eq_true] at h
  rw [h]
  refine ev_step (fun k => by rw [graftwoodref05_Has.l0]) ?_
  exact ev_neg (by rw [w_small (by omega) (by omega)]; show ¬ ((0 : Int) + 1 < 1); omega) (ev_now rfl)
def notN (m n : Nd) : Bool := !decide (m.f0 = n.f0 ∧ m.f1 = n.f1)
theorem minus_loop (l : List Nd) (m : Nd) (hl : l.length ≤ 1000) (d : Nat) : ∀ (i : Nat) (acc : List Nd), i + d = l.length → acc.length ≤ i → Ev (fun k => graftwoodref05_Minus.l0 k l [m] acc i) (acc ++ (l.drop i).filter (notN m)) := by
  induction d with
  | zero =>
    intro i acc hi hc
    rw [List.drop_eq_nil_of_le (by omega), List.filter_nil, List.append_nil]
    refine ev_step (fun k => by rw [graftwoodref05_Minus.l0]) ?_
    exact ev_neg (by omega) (ev_now rfl)
  | succ d ih =>
    intro i acc hi hc
    have hil : i < l.length := by omega
    rw [List.drop_eq_getElem_cons hil, List.filter_cons]
    refine ev_step (fun k => by rw [graftwoodref05_Minus.l0]) ?_
    rw [rdN_at l i hil, w_succ i (by omega)]
    refine ev_pos (by omega) (ev_pos (by omega) (ev_bind (has_ev m l[i]) ?_))
    unfold notN
    cases hd : decide (m.f0 = l[i].f0 ∧ m.f1 = l[i].f1) with
    | true => exact ev_pos rfl (ih (i + 1) acc (by omega) (by omega))
    | false =>
      have hh := ih (i + 1) (acc ++ [⟨l[i].f0, l[i].f1⟩]) (by omega) (by simp; omega)
      rw [List.append_assoc] at hh
      exact ev_neg (by decide) (ev_pos (by omega) hh)
theorem minus_ev (l : List Nd) (m : Nd) (hl : l.length ≤ 1000) : Ev (fun k => graftwoodref05_Minus.f k l [m]) (l.filter (notN m)) := by
  unfold graftwoodref05_Minus.f
  exact minus_loop l m hl l.length 0 [] (by omega) (by simp)
section
variable (l : List Nd) (n : Nd) (ol : okL l) (sl : smallL l) (on : nodeOk n = true) (sn : smN n) (hl : l.length ≤ 1000)
include ol sl on sn hl
theorem with1_loop (d : Nat) : ∀ (i : Nat) (acc : List Nd), i + d = l.length → acc.length ≤ 2000 + i → Ev (fun k => graftwoodref05_With.l1 k l acc i n.f0 n.f1) (acc ++ (l.drop i).filter fun x => decide (nodeC n x < 0)) := by
  induction d with
  | zero =>
    intro i acc hi hc
    rw [List.drop_eq_nil_of_le (by omega), List.filter_nil, List.append_nil]
    refine ev_step (fun k => by rw [graftwoodref05_With.l1]) ?_
    exact ev_neg (by omega) (ev_now rfl)
  | succ d ih =>
    intro i acc hi hc
    have hil : i < l.length := by omega
    rw [List.drop_eq_getElem_cons hil, List.filter_cons]
    refine ev_step (fun k => by rw [graftwoodref05_With.l1]) ?_
    rw [rdN_at l i hil, w_succ i (by omega)]
    refine ev_pos (by omega) (ev_pos (by omega) (ev_bind (less_ev n l[i] on (ol _ (List.getElem_mem hil)) sn (sl _ (List.getElem_mem hil))) ?_))
    cases hd : decide (nodeC n l[i] < 0) with
    | false => exact ev_neg (by decide) (ih (i + 1) acc (by omega) (by omega))
    | true =>
      have hh := ih (i + 1) (acc ++ [⟨l[i].f0, l[i].f1⟩]) (by omega) (by simp; omega)
      rw [List.append_assoc] at hh
      exact ev_pos rfl (ev_pos (by omega) hh)
theorem with0_loop (d : Nat) : ∀ (i : Nat) (acc : List Nd), i + d = l.length → acc.length ≤ i → Ev (fun k => graftwoodref05_With.l0 k l acc i n.f0 n.f1) (acc ++ ((l.drop i).filter (fun x => decide (nodeC x n < 0)) ++ n :: l.filter fun x => decide (nodeC n x < 0))) := by
  induction d with
  | zero =>
    intro i acc hi hc
    rw [List.drop_eq_nil_of_le (by omega), List.filter_nil, List.nil_append]
    refine ev_step (fun k => by rw [graftwoodref05_With.l0]) ?_
    have hh := with1_loop l n ol sl on sn hl l.length 0 (acc ++ [⟨n.f0, n.f1⟩]) (by omega) (by simp; omega)
    rw [List.append_assoc] at hh
    exact ev_neg (by omega) (ev_pos (by omega) hh)
  | succ d ih =>
    intro i acc hi hc
    have hil : i < l.length := by omega
    rw [List.drop_eq_getElem_cons hil, List.filter_cons]
    refine ev_step (fun k => by rw [graftwoodref05_With.l0]) ?_
    rw [rdN_at l i hil, w_succ i (by omega)]
    refine ev_pos (by omega) (ev_pos (by omega) (ev_bind (less_ev l[i] n (ol _ (List.getElem_mem hil)) on (sl _ (List.getElem_mem hil)) sn) ?_))
    cases hd : decide (nodeC l[i] n < 0) with
    | false => exact ev_neg (by decide) (ih (i + 1) acc (by omega) (by omega))
    | true =>
      have hh := ih (i + 1) (acc ++ [⟨l[i].f0, l[i].f1⟩]) (by omega) (by simp; omega)
      rw [List.append_assoc] at hh
      exact ev_pos rfl (ev_pos (by omega) hh)
theorem with_ev : Ev (fun k => graftwoodref05_With.f k l n.f0 n.f1) (l.filter (fun x => decide (nodeC x n < 0)) ++ n :: l.filter fun x => decide (nodeC n x < 0)) := by
  unfold graftwoodref05_With.f
  exact with0_loop l n ol sl on sn hl l.length 0 [] (by omega) (by simp)
end
/-! ### one change more -/
theorem nil_iff (v : ByteArray) : v.toList = ([] : List UInt8) ↔ v = ⟨#[]⟩ := by
  rw [toList_L]
  exact ⟨fun h => L_inj (h.trans rfl), fun h => by subst h; rfl⟩
theorem aplL_mem (s : List Nd) (n : Nd) : n ∈ aplL s ↔ lastL n.f0 s = n.f1 ∧ n.f1 ≠ ⟨#[]⟩ := by
  have hz := nil_iff
  unfold aplL
  rw [List.mem_filterMap]
  constructor
  · rintro ⟨p, hp, h⟩
    unfold aplN at h
    split at h
    · cases h
    · rename_i hne
      obtain rfl := Option.some.inj h
      exact ⟨rfl, fun e => hne ((hz _).2 e)⟩
  · rintro ⟨h1, h2⟩
    refine ⟨n.f0, Classical.byContradiction fun hp => h2 ?_, ?_⟩
    · rw [← h1]
      exact lastL_out fun m hm e => hp ((pathsL_mem _ _).2 ⟨m, hm, e⟩)
    · unfold aplN
      rw [h1, if_neg (fun e => h2 ((hz _).1 e))]
theorem aplL_pth (s : List Nd) : (aplL s).Pairwise pth := by
  unfold aplL
  refine List.pairwise_filterMap.2 ((pathsL_sorted s).imp fun {p q} h x hx y hy => ?_)
  have e : ∀ {p : ByteArray} {x : Nd}, aplN s p = some x → x.f0 = p := fun {p x} h => by
    unfold aplN at h
    split at h
    · cases h
    · obtain rfl := Option.some.inj h; rfl
  unfold pth
  rw [e hx, e hy]
  exact (ltP_iff _ _).1 h
theorem aplL_len (s : List Nd) : (aplL s).length ≤ s.length := Nat.le_trans (List.length_filterMap_le _ _) (pathsL_len s)
theorem pth_irr (a : Nd) : ¬ pth a a := fun h => by unfold pth at h; rw [cmpL_self] at h; omega
theorem last_more (s : List Nd) (p v q : ByteArray) : lastL q (s ++ [⟨p, v⟩]) = if p = q then v else lastL q s := lastL_snoc q s ⟨p, v⟩
/-- Those of another path than p. -/
theorem rest_mem (s : List Nd) (p : ByteArray) (M : List Nd) (hM : M = if lastL p s = ⟨#[]⟩ then aplL s else (aplL s).filter (notN ⟨p, lastL p s⟩)) (n : Nd) : n ∈ M ↔ n ∈ aplL s ∧ n.f0 ≠ p := by
  subst hM
  split
  · rename_i h
    refine ⟨fun hn => ⟨hn, fun e => ?_⟩, fun h => h.1⟩
    obtain ⟨h1, h2⟩ := (aplL_mem s n).1 hn
    rw [e, h] at h1
    exact h2 h1.symm
  · rename_i h
    rw [List.mem_filter]
    refine and_congr_right fun hn => ?_
    obtain ⟨h1, h2⟩ := (aplL_mem s n).1 hn
    unfold notN
    rw [Bool.not_eq_true', decide_eq_false_iff_not]
    refine ⟨fun h3 e => h3 ⟨e.symm, by rw [← e, h1]⟩, fun h3 h4 => h3 h4.1.symm⟩
theorem rest_pth (s : List Nd) (p : ByteArray) (M : List Nd) (hM : M = if lastL p s = ⟨#[]⟩ then aplL s else (aplL s).filter (notN ⟨p, lastL p s⟩)) : M.Pairwise pth := by
  subst hM
  split
  · exact aplL_pth s
  · exact (aplL_pth s).sublist List.filter_sublist
theorem more_none (s : List Nd) (p : ByteArray) (M : List Nd) (hM : M = if lastL p s = ⟨#[]⟩ then aplL s else (aplL s).filter (notN ⟨p, lastL p s⟩)) : M = aplL (s ++ [⟨p, ⟨#[]⟩⟩]) := by
  refine sorted_ext (R := pth) pth_irr (fun a b c => pth_trans) _ _ (rest_pth s p M hM) (aplL_pth _) fun n => ?_
  rw [rest_mem s p M hM, aplL_mem, aplL_mem, last_more]
  constructor
  · rintro ⟨⟨h1, h2⟩, h3⟩
    rw [if_neg (fun e => h3 e.symm)]
    exact ⟨h1, h2⟩
  · rintro ⟨h1, h2⟩
    by_cases e : p = n.f0
    · rw [if_pos e] at h1
      exact absurd h1.symm h2
    · rw [if_neg e] at h1
      exact ⟨⟨h1, h2⟩, fun h => e h.symm⟩
theorem more_some (s : List Nd) (p v : ByteArray) (hv : v ≠ ⟨#[]⟩) (os : okL (aplL s)) (on : nodeOk ⟨p, v⟩ = true) (M : List Nd) (hM : M = if lastL p s = ⟨#[]⟩ then aplL s else (aplL s).filter (notN ⟨p, lastL p s⟩)) :
    (M.filter (fun x => decide (nodeC x ⟨p, v⟩ < 0)) ++ ⟨p, v⟩ :: M.filter fun x => decide (nodeC ⟨p, v⟩ x < 0)) = aplL (s ++ [⟨p, v⟩]) := by
  have hmem := rest_mem s p M hM
  have hp := rest_pth s p M hM
  have hlt : ∀ x, x ∈ M.filter (fun x => decide (nodeC x ⟨p, v⟩ < 0)) → pth x ⟨p, v⟩ := fun x hx => by
    obtain ⟨h1, h2⟩ := List.mem_filter.1 hx
    exact node_pth (of_decide_eq_true h2) ((hmem x).1 h1).2
  have hgt : ∀ x, x ∈ M.filter (fun x => decide (nodeC ⟨p, v⟩ x < 0)) → pth ⟨p, v⟩ x := fun x hx => by
    obtain ⟨h1, h2⟩ := List.mem_filter.1 hx
    exact node_pth (of_decide_eq_true h2) (fun e => ((hmem x).1 h1).2 e.symm)
  refine sorted_ext (R := pth) pth_irr (fun a b c => pth_trans) _ _ ?_ (aplL_pth _) fun n => ?_
  · refine List.pairwise_append.2 ⟨hp.sublist List.filter_sublist, List.pairwise_cons.2 ⟨hgt, hp.sublist List.filter_sublist⟩, fun x hx y hy => ?_⟩
    rcases List.mem_cons.1 hy with rfl | hy
    · exact hlt x hx
    · exact pth_trans (hlt x hx) (hgt y hy)
  · rw [aplL_mem, last_more, List.mem_append, List.mem_cons, List.mem_filter, List.mem_filter, hmem, decide_eq_true_eq, decide_eq_true_eq]
    constructor
    · rintro (⟨⟨h1, h2⟩, -⟩ | rfl | ⟨⟨h1, h2⟩, -⟩)
      · rw [if_neg (fun e => h2 e.symm)]; exact (aplL_mem s n).1 h1
      · exact ⟨if_pos rfl, hv⟩
      · rw [if_neg (fun e => h2 e.symm)]; exact (aplL_mem s n).1 h1
    · rintro ⟨h1, h2⟩
      by_cases e : p = n.f0
      · rw [if_pos e] at h1
        exact .inr (.inl (nd_ext e.symm h1.symm))
      · rw [if_neg e] at h1
        have hn := (aplL_mem s n).2 ⟨h1, h2⟩
        have hne : nodeC n ⟨p, v⟩ ≠ 0 := fun h => by
          have := (nodeC_zero (os n hn) on).1 h
          exact e (by rw [this])
        have hf := nodeC_flip n ⟨p, v⟩
        by_cases h3 : nodeC n ⟨p, v⟩ < 0
        · exact .inl ⟨⟨hn, fun h => e h.symm⟩, h3⟩
        · exact .inr (.inr ⟨⟨hn, fun h => e h.symm⟩, by omega⟩)
/-! ### the reference's Apply -/
def apR (s : List Nd) (c : List Ch) : List Nd × Bool := match aplGo s c with
  | none => ([], false)
  | some a => (aplL a, true)
theorem verNe {v : ByteArray} (h : (decide (L v = []) || verOk (L v)) = true) (hv : v ≠ ⟨#[]⟩) : verOk (L v) = true := by
  rcases Bool.or_eq_true _ _ ▸ h with h | h
  · exact absurd (L_inj (of_decide_eq_true h)) hv
  · exact h
theorem ra_loop (a : List Nd) (ha : okB a = true) (la : a.length ≤ 400) (c : List Ch) (hS : smallC c) (hc : ∀ x, x ∈ c → chgOk none x = true) (lc : c.length ≤ 400) (d : Nat) : ∀ (i : Nat) (s : List Nd), i + d = c.length → s.length ≤ 400 + i → okL (aplL s) → smallL (aplL s) → (∀ x, x ∈ c.drop i → lastL x.f0 s = lastL x.f0 a) → (c.drop i).Pairwise (fun x y => x.f0 ≠ y.f0) →
    Ev (fun k => graftwoodref17_Apply.l1 k a c (aplL s) i) (apR s (c.drop i)) := by
  induction d with
  | zero =>
    intro i s hi hs os ss hl hp
    rw [List.drop_eq_nil_of_le (by omega)]
    refine ev_step (fun k => by rw [graftwoodref17_Apply.l1]) ?_
    exact ev_neg (by omega) (ev_now rfl)
  | succ d ih =>
    intro i s hi hs os ss hl hp
    have hil : i < c.length := by omega
    have hcx := hc _ (List.getElem_mem hil)
    have sx := hS _ (List.getElem_mem hil)
    rw [List.drop_eq_getElem_cons hil] at hl hp ⊢
    obtain ⟨hp1, hp2⟩ := List.pairwise_cons.1 hp
    have hal := aplL_len s
    refine ev_step (fun k => by rw [graftwoodref17_Apply.l1]) ?_
    rw [rdC_at c i hil, w_succ i (by omega)]
    have h1 := refPick_ev a c[i].f0 (by omega)
    rw [← lastL_pick ((okB_iff a).1 ha).2, ← hl c[i] List.mem_cons_self] at h1
    refine ev_pos (by omega) (ev_pos (by omega) (ev_bind h1 (ev_ite (fun h => ?_) (fun h => ?_))))
    case refine_2 =>
      unfold apR aplGo
      rw [if_neg h]
      exact ev_now rfl
    have hgo : apR s (c[i] :: c.drop (i + 1)) = apR (s ++ [⟨c[i].f0, c[i].f2⟩]) (c.drop (i + 1)) := by
      unfold apR
      rw [aplGo, if_pos h]
    have hold : lastL c[i].f0 s = c[i].f1 := (path_eq _ _).1 h
    unfold chgOk at hcx
    simp only [Bool.and_eq_true] at hcx
    obtain ⟨hc0, hc1, hc2, -⟩ := hcx
    have hnode : c[i].f2 ≠ ⟨#[]⟩ → nodeOk ⟨c[i].f0, c[i].f2⟩ = true := fun hv => by
      unfold nodeOk
      rw [Bool.and_eq_true]
      exact ⟨hc0, verNe hc2 hv⟩
    have hmore : ∀ n, n ∈ aplL (s ++ [⟨c[i].f0, c[i].f2⟩]) → nodeOk n = true ∧ smN n := fun n hn => by
      obtain ⟨h3, h4⟩ := (aplL_mem _ n).1 hn
      rw [last_more] at h3
      split at h3
      · rename_i e
        have e2 : n = ⟨c[i].f0, c[i].f2⟩ := nd_ext e.symm h3.symm
        subst e2
        exact ⟨hnode h4, sx.1, sx.2.2⟩
      · have hn2 := (aplL_mem s n).2 ⟨h3, h4⟩
        exact ⟨os n hn2, ss n hn2⟩
    have hih := ih (i + 1) (s ++ [⟨c[i].f0, c[i].f2⟩]) (by omega) (by simp; omega) (fun n hn => (hmore n hn).1) (fun n hn => (hmore n hn).2) (fun x hx => by
      rw [last_more, if_neg (hp1 x hx)]
      exact hl x (List.mem_cons_of_mem _ hx)) hp2
    rw [hgo]
    obtain ⟨M, hM⟩ : ∃ M, M = if lastL c[i].f0 s = ⟨#[]⟩ then aplL s else (aplL s).filter (notN ⟨c[i].f0, lastL c[i].f0 s⟩) := ⟨_, rfl⟩
    have hMl : M.length ≤ 1000 := by
      rw [hM]
      split
      · omega
      · have := List.length_filter_le (notN ⟨c[i].f0, lastL c[i].f0 s⟩) (aplL s); omega
    have hMs : ∀ n, n ∈ M → n ∈ aplL s := fun n hn => ((rest_mem s c[i].f0 M hM n).1 hn).1
    have fin : Ev (fun k => if c[i].f2.toList = ([] : List UInt8) then graftwoodref17_Apply.l1 k a c M ((i + 1 : Nat) : Int) else (graftwoodref05_With.f k M c[i].f0 c[i].f2).bind fun y => graftwoodref17_Apply.l1 k a c y ((i + 1 : Nat) : Int)) (apR (s ++ [⟨c[i].f0, c[i].f2⟩]) (c.drop (i + 1))) := by
      refine ev_ite (fun h2 => ?_) (fun h2 => ?_)
      · have e := (nil_iff _).1 h2
        rw [e] at hih ⊢
        rw [more_none s c[i].f0 M hM]
        exact hih
      · have hv : c[i].f2 ≠ ⟨#[]⟩ := fun e => h2 ((nil_iff _).2 e)
        have hw := with_ev M ⟨c[i].f0, c[i].f2⟩ (fun n hn => os n (hMs n hn)) (fun n hn => ss n (hMs n hn)) (hnode hv) ⟨sx.1, sx.2.2⟩ hMl
        rw [more_some s c[i].f0 c[i].f2 hv os (hnode hv) M hM] at hw
        exact ev_bind hw hih
    refine ev_ite (fun h2 => ?_) (fun h2 => ?_)
    · rw [hold, if_pos ((nil_iff _).1 h2)] at hM
      rw [hM] at fin
      exact fin
    · rw [hold, if_neg (fun e => h2 ((nil_iff _).2 e))] at hM
      have hm := minus_ev (aplL s) ⟨c[i].f0, c[i].f1⟩ (by omega)
      rw [← hM] at hm
      exact ev_bind hm fin
theorem ra_copy (a : List Nd) (c : List Ch) (la : a.length ≤ 400) (r : List Nd × Bool) (h : Ev (fun k => graftwoodref17_Apply.l1 k a c a 0) r) (d : Nat) : ∀ (i : Nat), i + d = a.length → Ev (fun k => graftwoodref17_Apply.l0 k a c (a.take i) i) r := by
  induction d with
  | zero =>
    intro i hi
    rw [List.take_of_length_le (by omega)]
    refine ev_step (fun k => by rw [graftwoodref17_Apply.l0]) ?_
    exact ev_neg (by omega) h
  | succ d ih =>
    intro i hi
    have hil : i < a.length := by omega
    have hh := ih (i + 1) (by omega)
    rw [List.take_succ_eq_append_getElem hil] at hh
    refine ev_step (fun k => by rw [graftwoodref17_Apply.l0]) ?_
    rw [rdN_at a i hil, w_succ i (by omega)]
    exact ev_pos (by omega) (ev_pos (by omega) (ev_pos (by rw [List.length_take]; omega) hh))
theorem refApply_ev (a : List Nd) (ha : okB a = true) (sa : smallL a) (la : a.length ≤ 400) (c : List Ch) (hS : smallC c) (hc : chgsOk none c = true) (lc : c.length ≤ 400) : Ev (fun k => graftwoodref17_Apply.f k a c) (apR a c) := by
  obtain ⟨h1, h2, -⟩ := chgs_inv c none hc
  have haa : aplL a = a := aplL_of ha (fun _ => rfl) fun n hn => ⟨n, hn, rfl⟩
  unfold graftwoodref17_Apply.f
  refine ra_copy a c la _ ?_ a.length 0 (by omega)
  have h := ra_loop a ha la c hS h1 lc c.length 0 a (by omega) (by omega) (by rw [haa]; exact ((okB_iff a).1 ha).1) (by rw [haa]; exact sa) (fun _ _ => rfl) (h2.imp fun {x y} h => show x.f0 ≠ y.f0 from fun e => ltP_irr y.f0 (by rw [e] at h; exact h))
  rw [haa] at h
  exact h
/-! ### the law -/
theorem sameN_ev (a : List Nd) (la : a.length ≤ 1000000) : Ev (fun k => graftwoodref05_Same.f k a a) true := by
  unfold graftwoodref05_Same.f
  exact ev_pos rfl (same5_self a la a.length 0 (by omega))
section
variable (a b : List Nd) (c : List Ch) (sa : smallL a) (sb : smallL b) (sc : smallC c) (la : a.length ≤ 24) (lb : b.length ≤ 24) (lc : c.length ≤ 20)
include sa sb la lb
theorem Chg_j1 (d : List Ch × Int) (hd : d = if (okB a && okB b) = true then (deltaL a b, 0) else ([], 1)) : Ev (fun k => graftwoodlaw17_ListChanges.j1 k a b d.1 d.2) true := by
  have hn : (okB a && okB b) = false → Ev (fun k => graftwoodlaw17_ListChanges.j2 k a b d.1 d.2 true) true := fun h => by
    rw [hd, h]
    exact ev_step (fun k => by rw [graftwoodlaw17_ListChanges.j2]) (ev_pos rfl (ev_pos (by simp) (ev_pos (by simp) (ev_last awake17_ev))))
  refine ev_step (fun k => by rw [graftwoodlaw17_ListChanges.j1]) ?_
  have h1 := refMay17_ev a sa (by omega)
  have h2 := refMay17_ev b sb (by omega)
  cases ha : okB a with
  | false =>
    rw [ha] at h1
    exact ev_bind h1 (ev_neg (by decide) (hn (by rw [ha]; rfl)))
  | true =>
    rw [ha] at h1
    refine ev_bind h1 (ev_pos rfl ?_)
    cases hb : okB b with
    | false =>
      rw [hb] at h2
      exact ev_bind h2 (hn (by rw [hb, Bool.and_false]))
    | true =>
      rw [hb] at h2
      refine ev_bind h2 (ev_step (fun k => by rw [graftwoodlaw17_ListChanges.j2]) (ev_neg (by decide) ?_))
      rw [hd, ha, hb]
      have hl : (deltaL a b).length ≤ 48 := by
        have h1 := List.length_filterMap_le (chgL a b) (pathsL (a ++ b))
        have h2 := pathsL_len (a ++ b)
        rw [List.length_append] at h2
        unfold deltaL
        omega
      exact ev_bind (refDelta_ev a b ha hb sa sb (by omega) (by omega)) (ev_bind (sameC_ev (deltaL a b) (by omega)) (ev_pos rfl (ev_pos (by simp) (ev_last awake17_ev))))
include sc lc
theorem Chg_j0 (d : List Ch × Int) (hd : d = if (okB a && okB b) = true then (deltaL a b, 0) else ([], 1)) (x : Bool) (hx : x = !(okB a && chgsOk none c)) :
    Ev (fun k => graftwoodlaw17_ListChanges.j0 k a b c d.1 d.2 (if (okB a && chgsOk none c) = true then aplR a c else ([], 1)).1 (if (okB a && chgsOk none c) = true then aplR a c else ([], 1)).2 x) true := by
  have hj1 := Chg_j1 a b sa sb la lb d hd
  subst hx
  refine ev_step (fun k => by rw [graftwoodlaw17_ListChanges.j0]) ?_
  cases h : (okB a && chgsOk none c) with
  | false => exact ev_pos rfl (ev_neg (by simp) (ev_pos (by simp) hj1))
  | true =>
    rw [Bool.and_eq_true] at h
    refine ev_neg (by decide) ?_
    have hap := refApply_ev a h.1 sa (by omega) c sc h.2 (by omega)
    have hll : ∀ s, aplGo a c = some s → (aplL s).length ≤ 1000 := fun s hs => by
      have h1 := aplL_len s
      have : ∀ (c : List Ch) (a s : List Nd), aplGo a c = some s → s.length = a.length + c.length := fun c => by
        induction c with
        | nil => intro a s h; rw [aplGo] at h; obtain rfl := Option.some.inj h; simp
        | cons x c ih =>
          intro a s h
          rw [aplGo] at h
          split at h
          · have := ih _ _ h
            simp only [List.length_append, List.length_cons, List.length_nil] at this ⊢
            omega
          · cases h
      have := this c a s hs
      omega
    unfold apR at hap
    rw [if_pos rfl]
    unfold aplR
    cases hg : aplGo a c with
    | none =>
      rw [hg] at hap
      exact ev_bind hap (ev_neg (by simp) (ev_neg (by simp) (ev_pos (by simp) hj1)))
    | some s =>
      rw [hg] at hap
      exact ev_bind hap (ev_pos rfl (ev_bind (sameN_ev (aplL s) (by have := hll s hg; omega)) (ev_pos rfl (ev_pos rfl hj1))))
end
theorem ListChanges : graftwoodlaw17_ListChanges.Goal := by
  intro x0 x1 x2 _ _ _
  refine ev_rounds (g := fun k => graftwoodlaw17_ListChanges.f k x0 x1 x2) ?_
  unfold graftwoodlaw17_ListChanges.f
  refine ev_bind (few5_ev x0) (ev_bind (few5_ev x1) (ev_bind (few17_ev x2) ?_))
  have sa := few_small x0
  have sb := few_small x1
  have sc := fewC_small x2
  have la := fewL_len x0
  have lb := fewL_len x1
  have lc : ((x2.take 20).map fewC).length ≤ 20 := by rw [List.length_map, List.length_take]; omega
  generalize fewL x0 = a at sa la ⊢
  generalize fewL x1 = b at sb lb ⊢
  generalize (x2.take 20).map fewC = c at sc lc ⊢
  have hd : Ev (fun k => list_Delta.f k a b) (if (okB a && okB b) = true then (deltaL a b, 0) else ([], 1)) := by
    cases h : (okB a && okB b) with
    | false => exact delta_bad a b sa sb (by omega) (by omega) h
    | true => exact delta_ok a b sa sb (by omega) (by omega) h
  refine ev_bind hd (ev_bind (apply_ev a c sa sc (by omega) (by omega)) ?_)
  have h1 := refMay17_ev a sa (by omega)
  have h2 := refChanges_ev c sc (by omega)
  refine ev_bind h1 ?_
  have hj := fun x hx => Chg_j0 a b c sa sb sc la lb lc _ rfl x hx
  refine ev_ite (fun h => ?_) (fun h => ?_)
  · refine ev_bind h2 (hj _ ?_)
    rw [h, Bool.true_and]
  · refine hj _ ?_
    rw [Bool.not_eq_true] at h
    rw [h]; rfl
end Go.Proofs.YtknmfmedklfepaaGreatDoor.Pure
