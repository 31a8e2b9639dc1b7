/-
  What the printed functions of layer 1 (octet), its reference and its law's helpers come to: plain lists of octets.
-/
import Derived.Test.YtfhdbhocichpiaaDoorP1
import Derived.Test.YtfhdbhocichpiaaDoorP3
import Derived.Test.YtfhdbhocichpiaaDoorP4
import Derived.Test.YtfhdbhocichpiaaDoorP2
import Derived.Test.YtfhdbhocichpiaaDoorP5
import Derived.Test.YtfhdbhocichpiaaDoorP9
import Derived.Test.YtfhdbhocichpiaaDoorP12
import Derived.Test.YtfhdbhocichpiaaDoorP14
import Derived.Test.YtfhdbhocichpiaaDoorP7
import Derived.Test.YtfhdbhocichpiaaDoorBase
namespace Go.Proofs.YtfhdbhocichpiaaDoor.Q
open Go.RowKit Go.Proofs.YtfhdbhocichpiaaDoor.P Go.Proofs.YtfhdbhocichpiaaDoorB Go.Proofs.YtfhdbhocichpiaaDoorW.PrintWords Go.Proofs.YtfhdbhocichpiaaDoorW.PrintLast Go.Proofs.YtfhdbhocichpiaaDoorW.PrintMore
set_option linter.unusedSimpArgs false

/-! ### an octet and its number -/
theorem oct_back (c : Int) (h0 : 0 ≤ c) (h1 : c < 256) : (c.toNat.toUInt8.toNat : Int) = c := by
  have : c.toNat.toUInt8.toNat = c.toNat := by
    show (UInt8.ofNat c.toNat).toNat = _
    rw [UInt8.toNat_ofNat']
    omega
  omega
theorem L_num (c : Int) : L (strOfNums [c]) = [c.toNat.toUInt8] := rfl
theorem size_num (c : Int) : (strOfNums [c]).size = 1 := rfl
theorem size_app (a b : ByteArray) : (a ++ b).size = a.size + b.size := by rw [← L_size, L_append, List.length_append, L_size, L_size]

/-! ### Few -/
def few (a : ByteArray) : ByteArray := if a.size > 400 then a.extract 0 400 else a
theorem few_size (a : ByteArray) : (few a).size ≤ 400 := by
  unfold few
  split
  · simp; omega
  · omega
theorem few_len (a : ByteArray) : (L (few a)).length ≤ 400 := by rw [L_size]; exact few_size a
theorem Few_eq (a : ByteArray) : graftwoodlaw01_Few.f a = some (few a) := by
  unfold graftwoodlaw01_Few.f few
  by_cases h : a.size > 400
  · rw [if_pos (by omega), if_pos (by omega), if_pos (by omega), if_pos h]
  · rw [if_neg (by omega), if_neg h]

/-! ### Cmp -/
theorem Cmp_eq (a b : ByteArray) : octet_Cmp.f a b = some (cmpL (L a) (L b)) := by
  unfold octet_Cmp.f cmp_Compare_string.f cmp_isNaN_string.f cmpL
  simp only [Option.bind_some, bne_self_eq_false, toList_L, less_eq, decide_eq_true_eq]
  by_cases h1 : L a < L b
  · simp [h1]
  · by_cases h2 : L b < L a <;> simp [h1, h2]

/-! ### Parts -/
def partsB (c : UInt8) (s : ByteArray) : List ByteArray := (partsL c (L s)).map fun x => ⟨x.toArray⟩
theorem Parts_eq (s : ByteArray) (c : Int) (h0 : 0 ≤ c) (h1 : c < 256) (hs : s.size ≤ 1000000000) : octet_Parts.f s c = some (partsB c.toNat.toUInt8 s) := by
  unfold octet_Parts.f
  rw [if_pos h0, if_pos h1, if_pos hs]
  rfl
theorem partsB_length (c : UInt8) (s : ByteArray) : (partsB c s).length = (partsL c (L s)).length := by simp [partsB]
theorem partsL_pos (c : UInt8) (l : List UInt8) : 1 ≤ (partsL c l).length := (partsL_length c l).2
theorem partsL_ne (c : UInt8) (l : List UInt8) : partsL c l ≠ [] := fun h => by have := partsL_pos c l; rw [h] at this; simp at this
/-- Put together again. -/
def joinL (c : UInt8) : List (List UInt8) → List UInt8
  | [] => []
  | [x] => x
  | x :: y :: l => x ++ c :: joinL c (y :: l)
theorem joinL_cons (c : UInt8) (x : List UInt8) (l : List (List UInt8)) (h : l ≠ []) : joinL c (x :: l) = x ++ c :: joinL c l := by
  cases l with
  | nil => exact absurd rfl h
  | cons y l => rfl
theorem partsL_split (c : UInt8) (l : List UInt8) : ∃ h t, partsL c l = h :: t := by
  cases hp : partsL c l with
  | nil => exact absurd hp (partsL_ne c l)
  | cons h t => exact ⟨h, t, rfl⟩
theorem joinL_parts (c : UInt8) : ∀ l : List UInt8, joinL c (partsL c l) = l
  | [] => rfl
  | b :: l => by
    have ih := joinL_parts c l
    rw [partsL]
    by_cases h : b = c
    · rw [if_pos h, joinL_cons c [] _ (partsL_ne c l), ih, h]; rfl
    · rw [if_neg h]
      obtain ⟨x, t, hx⟩ := partsL_split c l
      rw [hx] at ih ⊢
      rw [← ih]
      cases t with
      | nil => rfl
      | cons y t => rfl
theorem partsL_count (c : UInt8) : ∀ l : List UInt8, (partsL c l).length = l.count c + 1
  | [] => rfl
  | b :: l => by
    have ih := partsL_count c l
    rw [partsL]
    by_cases h : b = c
    · subst h; rw [if_pos rfl, List.length_cons, ih, List.count_cons_self]
    · rw [if_neg h, List.count_cons_of_ne (by simpa using h), List.length_cons, List.length_tail, ih]; omega
theorem partsL_free (c : UInt8) : ∀ (l : List UInt8) (p : List UInt8), p ∈ partsL c l → c ∉ p
  | [], p, hp => by simp [partsL] at hp; subst hp; simp
  | b :: l, p, hp => by
    have ih := partsL_free c l
    obtain ⟨x, t, hx⟩ := partsL_split c l
    rw [partsL] at hp
    rw [hx] at hp ih
    by_cases h : b = c
    · rw [if_pos h] at hp
      rcases List.mem_cons.1 hp with rfl | hp
      · simp
      · exact ih p hp
    · rw [if_neg h] at hp
      rcases List.mem_cons.1 hp with rfl | hp
      · have := ih x (by simp)
        simp only [List.headD_cons, List.mem_cons, not_or]
        exact ⟨fun e => h e.symm, this⟩
      · exact ih p (by simp at hp ⊢; exact .inr hp)
theorem partsL_append (c : UInt8) (b : List UInt8) : ∀ a : List UInt8, partsL c (a ++ c :: b) = partsL c a ++ partsL c b
  | [] => by simp [partsL]
  | x :: a => by
    have ih := partsL_append c b a
    rw [List.cons_append, partsL, ih, partsL]
    obtain ⟨p, t, hp⟩ := partsL_split c a
    by_cases h : x = c
    · rw [if_pos h, if_pos h]; rfl
    · rw [if_neg h, if_neg h, hp]; rfl
theorem partsL_whole (c : UInt8) (l : List UInt8) (h : c ∉ l) : partsL c l = [l] := by
  induction l with
  | nil => rfl
  | cons b l ih =>
    simp only [List.mem_cons, not_or] at h
    rw [partsL, if_neg (fun e => h.1 e.symm), ih h.2]
    rfl
/-- The parts of parts put together, none of which has what parts them. -/
theorem partsL_join (c : UInt8) : ∀ l : List (List UInt8), l ≠ [] → (∀ p, p ∈ l → c ∉ p) → partsL c (joinL c l) = l
  | [], h, _ => absurd rfl h
  | [x], _, hf => by simp only [joinL]; exact partsL_whole c x (hf x (by simp))
  | x :: y :: l, _, hf => by
    rw [joinL_cons c x _ (by simp), partsL_append, partsL_whole c x (hf x (by simp)), partsL_join c (y :: l) (by simp) (fun p hp => hf p (by simp at hp ⊢; exact .inr hp))]
    rfl

theorem awake_eq : graftwoodlaw01_awake.f = some true := by
  unfold graftwoodlaw01_awake.f
  rw [Parts_eq _ _ (by decide) (by decide) (by decide)]
  simp only [Option.bind_some, Cmp_eq, toList_L]
  decide +kernel

/-! ### Common -/
def commonL : List UInt8 → List UInt8 → Nat
  | a :: x, b :: y => if a = b then commonL x y + 1 else 0
  | _, _ => 0
theorem commonL_drop (x y : List UInt8) (i : Nat) (h : i < x.length) (h' : i < y.length) : commonL (x.drop i) (y.drop i) = if x[i] = y[i] then commonL (x.drop (i + 1)) (y.drop (i + 1)) + 1 else 0 := by
  rw [List.drop_eq_getElem_cons h, List.drop_eq_getElem_cons h', commonL]
theorem Common_loop (a b : ByteArray) (n : Nat) (hn : n = min (L a).length (L b).length) (hb : n ≤ 4611686018427387904) (d : Nat) : ∀ i : Nat, i + d = n → Ev (fun k => octet_Common.l0 k a b n n i) ((i + commonL ((L a).drop i) ((L b).drop i) : Nat) : Int) := by
  induction d with
  | zero =>
    intro i hi
    refine ev_step (fun k => by rw [octet_Common.l0]) ?_
    refine ev_neg (by omega) (ev_now ?_)
    have hz : commonL ((L a).drop i) ((L b).drop i) = 0 := by
      rcases Nat.le_total (L a).length (L b).length with h | h
      · rw [List.drop_eq_nil_of_le (by omega)]; rfl
      · rw [drop_nil (L b) i (by omega)]; unfold commonL; split <;> first | rfl | simp_all
    rw [hz]; omega
  | succ d ih =>
    intro i hi
    have ha : i < (L a).length := by omega
    have hb' : i < (L b).length := by omega
    refine ev_step (fun k => by rw [octet_Common.l0]) ?_
    refine ev_pos (by omega) (ev_pos (by omega) (ev_pos (by rw [← L_size]; omega) (ev_pos (by rw [← L_size]; omega) ?_)))
    rw [commonL_drop _ _ i ha hb']
    refine ev_ite (fun h => ?_) (fun h => ?_)
    · rw [if_pos ((bt_eq_iff a b i i ha hb').1 h)]
      have e := w_succ i (by omega)
      rw [e, show i + (commonL ((L a).drop (i + 1)) ((L b).drop (i + 1)) + 1) = (i + 1) + commonL ((L a).drop (i + 1)) ((L b).drop (i + 1)) by omega]
      exact ih (i + 1) (by omega)
    · rw [if_neg (fun e => h ((bt_eq_iff a b i i ha hb').2 e))]
      exact ev_now (by omega)
theorem Common_ev (a b : ByteArray) (ha : a.size ≤ 1000000000) : Ev (fun k => octet_Common.f k a b) (commonL (L a) (L b) : Int) := by
  have hm : mn (a.size : Int) (b.size : Int) = ((min (L a).length (L b).length : Nat) : Int) := by rw [mn_eq, L_size, L_size]
  have h := Common_loop a b _ rfl (by have := L_size a; omega) (min (L a).length (L b).length) 0 (by omega)
  simp only [octet_Common.f, hm]
  simpa using h
theorem commonL_append (c x y : List UInt8) : commonL (c ++ x) (c ++ y) = c.length + commonL x y := by
  induction c with
  | nil => simp
  | cons a c ih => rw [List.cons_append, List.cons_append, commonL, if_pos rfl, ih, List.length_cons]; omega
theorem commonL_le : ∀ x y : List UInt8, commonL x y ≤ x.length ∧ commonL x y ≤ y.length ∧ x.take (commonL x y) = y.take (commonL x y)
  | a :: x, b :: y => by
    have ih := commonL_le x y
    rw [commonL]
    split
    · rename_i h
      subst h
      simp only [List.length_cons, List.take_succ_cons]
      exact ⟨by omega, by omega, by rw [ih.2.2]⟩
    · simp
  | [], y => by simp [commonL]
  | a :: x, [] => by simp [commonL]
theorem commonL_stop : ∀ (x y : List UInt8) (h : commonL x y < x.length) (h' : commonL x y < y.length), x[commonL x y] ≠ y[commonL x y]
  | a :: x, b :: y => by
    intro h h'
    have ih := commonL_stop x y
    by_cases e : a = b
    · subst e
      have hc : commonL (a :: x) (a :: y) = commonL x y + 1 := by rw [commonL, if_pos rfl]
      simp only [hc, List.getElem_cons_succ]
      simp only [hc, List.length_cons] at h h'
      exact ih (by omega) (by omega)
    · have hc : commonL (a :: x) (b :: y) = 0 := by rw [commonL, if_neg e]
      simp only [hc, List.getElem_cons_zero]
      exact e
  | [], y => by intro h; simp at h
  | a :: x, [] => by intro h h'; simp at h'
/-! ### the reference's Cmp -/
theorem cmpL_cons_cons (x y : UInt8) (a b : List UInt8) : cmpL (x :: a) (y :: b) = if x < y then -1 else if y < x then 1 else cmpL a b := by
  unfold cmpL
  simp only [List.cons_lt_cons_iff]
  by_cases h1 : x < y
  · simp [h1]
  · by_cases h2 : y < x
    · have h3 : ¬ x = y := fun e => by subst e; exact UInt8.lt_irrefl _ h2
      simp [h1, h2, h3]
    · have h3 : x = y := UInt8.le_antisymm (UInt8.not_lt.1 h2) (UInt8.not_lt.1 h1)
      subst h3
      simp [h1]
theorem refCmp_loop (a b : ByteArray) (hb : (L a).length ≤ 1000000000) (d : Nat) : ∀ i : Nat, i + d = min (L a).length (L b).length → Ev (fun k => graftwoodref01_Cmp.l0 k a b i) (cmpL ((L a).drop i) ((L b).drop i)) := by
  have sa := L_size a
  have sb := L_size b
  induction d with
  | zero =>
    intro i hi
    refine ev_step (fun k => by rw [graftwoodref01_Cmp.l0]) ?_
    have hlast : ∀ c : Bool, c = false → Ev (fun k => graftwoodref01_Cmp.j1 k a b i c) (cmpL ((L a).drop i) ((L b).drop i)) := by
      intro c hc
      subst hc
      refine ev_step (fun k => by rw [graftwoodref01_Cmp.j1]) ?_
      refine ev_neg (by simp) ?_
      refine ev_ite (fun h => ?_) (fun h => ?_)
      · refine ev_now ?_
        rw [drop_nil (L a) i (by omega), List.drop_eq_getElem_cons (l := L b) (by omega)]
        rfl
      · refine ev_ite (fun h' => ?_) (fun h' => ?_)
        · refine ev_now ?_
          rw [drop_nil (L b) i (by omega), List.drop_eq_getElem_cons (l := L a) (by omega)]
          rfl
        · refine ev_now ?_
          rw [drop_nil (L b) i (by omega), drop_nil (L a) i (by omega)]
          rfl
    refine ev_ite (fun h => hlast _ (decide_eq_false (by omega))) (fun h => hlast _ rfl)
  | succ d ih =>
    intro i hi
    have ha : i < (L a).length := by omega
    have hb' : i < (L b).length := by omega
    refine ev_step (fun k => by rw [graftwoodref01_Cmp.l0]) ?_
    refine ev_pos (by omega) ?_
    rw [show decide ((i : Int) < (b.size : Int)) = true from decide_eq_true (by omega)]
    refine ev_step (fun k => by rw [graftwoodref01_Cmp.j1]) ?_
    refine ev_pos rfl (ev_pos (by omega) (ev_pos (by omega) (ev_pos (by omega) ?_)))
    rw [List.drop_eq_getElem_cons ha, List.drop_eq_getElem_cons hb', cmpL_cons_cons]
    have hlt : ∀ x y : UInt8, x < y ↔ (x.toNat : Int) < (y.toNat : Int) := fun x y => by rw [UInt8.lt_iff_toNat_lt]; omega
    refine ev_ite (fun h => ?_) (fun h => ?_)
    · rw [bt_L a i ha, bt_L b i hb', ← hlt] at h
      rw [if_pos h]; exact ev_now rfl
    · rw [bt_L a i ha, bt_L b i hb', ← hlt] at h
      rw [if_neg h]
      refine ev_ite (fun h' => ?_) (fun h' => ?_)
      · have h'' : (bt b i) < (bt a i) := h'
        rw [bt_L a i ha, bt_L b i hb', ← hlt] at h''
        rw [if_pos h'']; exact ev_now rfl
      · have h'' : ¬ (bt b i) < (bt a i) := h'
        rw [bt_L a i ha, bt_L b i hb', ← hlt] at h''
        rw [if_neg h'']
        have e := w_succ i (by omega)
        rw [e]
        exact ih (i + 1) (by omega)
theorem refCmp_ev (a b : ByteArray) (ha : a.size ≤ 1000000000) : Ev (fun k => graftwoodref01_Cmp.f k a b) (cmpL (L a) (L b)) :=
  refCmp_loop a b (by rw [L_size]; exact ha) (min (L a).length (L b).length) 0 (by omega)

/-! ### the reference's Parts -/
theorem refParts_loop (s : ByteArray) (c : UInt8) (hs : (L s).length ≤ 1000000000) (d : Nat) : ∀ (i fr : Nat) (out : List ByteArray), i + d = (L s).length → fr ≤ i → c ∉ ((L s).drop fr).take (i - fr) → out.length ≤ i →
    Ev (fun k => graftwoodref01_Parts.l0 k s (c.toNat : Int) out fr i) (out ++ (partsL c ((L s).drop fr)).map fun x => ⟨x.toArray⟩) := by
  have sz := L_size s
  have hex : ∀ a b : Nat, s.extract a b = ⟨(((L s).drop a).take (b - a)).toArray⟩ := fun a b => by rw [← L_extract, mk_L]
  induction d with
  | zero =>
    intro i fr out hi hf hc ho
    refine ev_step (fun k => by rw [graftwoodref01_Parts.l0]) ?_
    refine ev_neg (by omega) (ev_pos (by omega) (ev_pos (by omega) (ev_pos (by omega) (ev_now ?_))))
    rw [List.take_of_length_le (by simp; omega)] at hc
    rw [partsL_whole c _ hc, Int.toNat_natCast, hex, List.take_of_length_le (by simp <;> omega)]
    rfl
  | succ d ih =>
    intro i fr out hi hf hc ho
    have hil : i < (L s).length := by omega
    have e := w_succ i (by omega)
    refine ev_step (fun k => by rw [graftwoodref01_Parts.l0]) ?_
    refine ev_pos (by omega) (ev_pos (by omega) ?_)
    refine ev_ite (fun h => ?_) (fun h => ?_)
    · have hx : (L s)[i] = c := by rw [bt_L s i hil] at h; exact UInt8.toNat_inj.1 (by omega)
      refine ev_pos (by omega) (ev_pos (by omega) (ev_pos (by omega) (ev_pos (by omega) ?_)))
      rw [e, Int.toNat_natCast, Int.toNat_natCast, hex]
      have hd : (L s).drop fr = ((L s).drop fr).take (i - fr) ++ c :: (L s).drop (i + 1) := by
        conv => lhs; rw [← List.take_append_drop (i - fr) ((L s).drop fr)]
        rw [List.drop_drop, show fr + (i - fr) = i by omega, List.drop_eq_getElem_cons hil, hx]
      have hr := ih (i + 1) (i + 1) (out ++ [⟨(((L s).drop fr).take (i - fr)).toArray⟩]) (by omega) (Nat.le_refl _) (by simp) (by simp; omega)
      rw [show (partsL c ((L s).drop fr)) = (((L s).drop fr).take (i - fr)) :: partsL c ((L s).drop (i + 1)) by
        conv => lhs; rw [hd]
        rw [partsL_append, partsL_whole c _ hc]; rfl]
      rw [List.append_assoc] at hr
      exact hr
    · have hx : ¬ (L s)[i] = c := fun hx => h (by rw [bt_L s i hil, hx])
      rw [e]
      refine ih (i + 1) fr out (by omega) (by omega) ?_ (by omega)
      rw [show i + 1 - fr = (i - fr) + 1 by omega, List.take_succ_eq_append_getElem (by simp; omega)]
      simp only [List.mem_append, List.mem_singleton, not_or, List.getElem_drop]
      refine ⟨hc, fun hh => hx ?_⟩
      rw [hh]
      congr 1
      omega
theorem refParts_ev (s : ByteArray) (c : Int) (h0 : 0 ≤ c) (h1 : c < 256) (hs : s.size ≤ 1000000000) : Ev (fun k => graftwoodref01_Parts.f k s c) (partsB c.toNat.toUInt8 s) := by
  have hc : (c.toNat.toUInt8.toNat : Int) = c := by
    have : c.toNat.toUInt8.toNat = c.toNat := by
      show (UInt8.ofNat c.toNat).toNat = _
      rw [UInt8.toNat_ofNat']
      omega
    omega
  have h := refParts_loop s c.toNat.toUInt8 (by rw [L_size]; exact hs) (L s).length 0 0 [] (by omega) (Nat.le_refl _) (by simp) (by simp)
  rw [hc] at h
  simpa [graftwoodref01_Parts.f, partsB] using h

/-! ### the reference's Same -/
theorem refSame_loop (x y : List ByteArray) (hl : x.length = y.length) (hx : x.length ≤ 4611686018427387904) (d : Nat) : ∀ i : Nat, i + d = x.length → Ev (fun k => graftwoodref01_Same.l0 k x y i) (decide (x.drop i = y.drop i)) := by
  induction d with
  | zero =>
    intro i hi
    refine ev_step (fun k => by rw [graftwoodref01_Same.l0]) ?_
    refine ev_neg (by omega) (ev_now ?_)
    rw [List.drop_eq_nil_of_le (by omega), List.drop_eq_nil_of_le (by omega)]
    simp
  | succ d ih =>
    intro i hi
    have e := w_succ i (by omega)
    refine ev_step (fun k => by rw [graftwoodref01_Same.l0]) ?_
    refine ev_pos (by omega) (ev_pos (by omega) (ev_pos (by omega) ?_))
    rw [rdOf_at _ x i (by omega), rdOf_at _ y i (by omega), List.drop_eq_getElem_cons (l := x) (by omega), List.drop_eq_getElem_cons (l := y) (by omega)]
    refine ev_ite (fun h => ?_) (fun h => ?_)
    · have h' := L_inj ((eq_iff_L _ _).1 h)
      rw [e, dec_cons _ _ _ _ h']
      exact ih (i + 1) (by omega)
    · have h' : ¬ x[i] = y[i] := fun hh => h (by rw [hh])
      exact ev_now (dec_cons_ne _ _ _ _ h').symm
theorem refSame_ev (x y : List ByteArray) (hx : x.length ≤ 4611686018427387904) : Ev (fun k => graftwoodref01_Same.f k x y) (decide (x = y)) := by
  unfold graftwoodref01_Same.f
  refine ev_ite (fun h => ?_) (fun h => ?_)
  · simpa using refSame_loop x y (by omega) hx x.length 0 (by omega)
  · have : ¬ x = y := fun e => h (by rw [e])
    exact ev_now (by simp [this])

/-! ### the reference's Class -/
theorem refClass_all : ∀ n : Fin 256, graftwoodref01_Class.f 5 (n.val : Int) = some (clsOf (n.val : Int)) := by decide +kernel
theorem refClass_ev (c : Int) (h0 : 0 ≤ c) (h1 : c < 256) : Ev (fun k => graftwoodref01_Class.f k c) (clsOf c) := by
  obtain ⟨n, rfl⟩ := Int.eq_ofNat_of_zero_le h0
  exact Ev.of (fun k => graftwoodref01_Class.mono _ k) (refClass_all ⟨n, by omega⟩)
theorem Class_eq (c : Int) (h0 : 0 ≤ c) (h1 : c < 256) : octet_Class.f c = some (clsOf c) := by
  unfold octet_Class.f
  rw [if_pos h0, if_pos h1]

theorem refHas_loop (x : List Int) (n : Int) (hx : x.length ≤ 4611686018427387904) (d : Nat) : ∀ i : Nat, i + d = x.length → Ev (fun k => graftwoodref01_Has.l0 k x n i) ((x.drop i).contains n) := by
  induction d with
  | zero =>
    intro i hi
    refine ev_step (fun k => by rw [graftwoodref01_Has.l0]) ?_
    refine ev_neg (by omega) (ev_now ?_)
    rw [List.drop_eq_nil_of_le (by omega)]; rfl
  | succ d ih =>
    intro i hi
    have e := w_succ i (by omega)
    have hr : rd x i = x[i] := by simp [rd, List.getD_eq_getElem?_getD, show i < x.length by omega]
    refine ev_step (fun k => by rw [graftwoodref01_Has.l0]) ?_
    refine ev_pos (by omega) (ev_pos (by omega) ?_)
    rw [hr, List.drop_eq_getElem_cons (l := x) (by omega), List.contains_cons]
    refine ev_ite (fun h => ?_) (fun h => ?_)
    · exact ev_now (by simp [h])
    · rw [e]
      have hb : (n == x[i]) = false := beq_eq_false_iff_ne.2 (fun hh => h hh.symm)
      rw [hb, Bool.false_or]
      exact ih (i + 1) (by omega)
theorem refHas_ev (x : List Int) (n : Int) (hx : x.length ≤ 4611686018427387904) : Ev (fun k => graftwoodref01_Has.f k x n) (x.contains n) := by
  simpa [graftwoodref01_Has.f] using refHas_loop x n hx x.length 0 (by omega)

theorem In_loop (x : List Int) (n : Int) (hx : x.length ≤ 4611686018427387904) (d : Nat) : ∀ i : Nat, i + d = x.length → Ev (fun k => octet_In.l0 k n x x.length i) ((x.drop i).contains n) := by
  induction d with
  | zero =>
    intro i hi
    refine ev_step (fun k => by rw [octet_In.l0]) ?_
    refine ev_neg (by omega) (ev_now ?_)
    rw [List.drop_eq_nil_of_le (by omega)]; rfl
  | succ d ih =>
    intro i hi
    have e := w_succ i (by omega)
    have hr : rd x i = x[i] := by simp [rd, List.getD_eq_getElem?_getD, show i < x.length by omega]
    refine ev_step (fun k => by rw [octet_In.l0]) ?_
    refine ev_pos (by omega) (ev_pos (by omega) (ev_pos (by omega) ?_))
    rw [hr, List.drop_eq_getElem_cons (l := x) (by omega), List.contains_cons]
    refine ev_ite (fun h => ?_) (fun h => ?_)
    · exact ev_now (by simp [h])
    · rw [e]
      have hb : (n == x[i]) = false := beq_eq_false_iff_ne.2 (fun hh => h hh.symm)
      rw [hb, Bool.false_or]
      exact ih (i + 1) (by omega)
theorem In_ev (c : Int) (x : List Int) (h0 : 0 ≤ c) (h1 : c < 256) (hx : x.length ≤ 4611686018427387904) : Ev (fun k => octet_In.f k c x) (x.contains (clsOf c)) := by
  unfold octet_In.f
  rw [Class_eq c h0 h1]
  simpa using In_loop x (clsOf c) hx x.length 0 (by omega)

theorem All_eq (s : ByteArray) (l : List Int) (hs : s.size ≤ 1000000000) : octet_All.f s l = some (allOf l (L s)) := by
  unfold octet_All.f
  rw [if_pos hs]
  rfl
theorem refAll_loop (s : ByteArray) (l : List Int) (hs : (L s).length ≤ 1000000000) (hl : l.length ≤ 4611686018427387904) (d : Nat) : ∀ i : Nat, i + d = (L s).length → Ev (fun k => graftwoodref01_All.l0 k s l i) (allOf l ((L s).drop i)) := by
  have sz := L_size s
  induction d with
  | zero =>
    intro i hi
    refine ev_step (fun k => by rw [graftwoodref01_All.l0]) ?_
    refine ev_neg (by omega) (ev_now ?_)
    rw [List.drop_eq_nil_of_le (by omega)]; rfl
  | succ d ih =>
    intro i hi
    have hil : i < (L s).length := by omega
    have e := w_succ i (by omega)
    have hb := (L s)[i].toNat_lt
    refine ev_step (fun k => by rw [graftwoodref01_All.l0]) ?_
    refine ev_pos (by omega) (ev_pos (by omega) ?_)
    rw [bt_L s i hil]
    refine ev_bind (refClass_ev _ (by omega) (by omega)) (ev_bind (refHas_ev l _ hl) ?_)
    rw [List.drop_eq_getElem_cons hil]
    have hall : allOf l ((L s)[i] :: (L s).drop (i + 1)) = (l.contains (clsOf (L s)[i].toNat) && allOf l ((L s).drop (i + 1))) := rfl
    rw [hall]
    refine ev_ite (fun h => ?_) (fun h => ?_)
    · rw [h, Bool.true_and, e]
      exact ih (i + 1) (by omega)
    · have h' : l.contains (clsOf (L s)[i].toNat) = false := by simpa using h
      rw [h', Bool.false_and]
      exact ev_now rfl
theorem refAll_ev (s : ByteArray) (l : List Int) (hs : s.size ≤ 1000000000) (hl : l.length ≤ 4611686018427387904) : Ev (fun k => graftwoodref01_All.f k s l) (allOf l (L s)) := by
  simpa [graftwoodref01_All.f] using refAll_loop s l (by rw [L_size]; exact hs) hl (L s).length 0 (by omega)
end Go.Proofs.YtfhdbhocichpiaaDoor.Q
