/-
  What the printed functions of layer 4 (path) and its reference come to.
-/
import Derived.Test.YtgcgpcoeffillaaDoorP6
import Derived.Test.YtgcgpcoeffillaaDoorP9
import Derived.Test.YtgcgpcoeffillaaDoorP8
import Derived.Test.YtgcgpcoeffillaaDoorP7
import Derived.Test.YtgcgpcoeffillaaDoorOct
namespace Go.Proofs.YtgcgpcoeffillaaDoor.Q
open Go.RowKit Go.Proofs.YtgcgpcoeffillaaDoor.P Go.Proofs.YtgcgpcoeffillaaDoorB Go.Proofs.YtgcgpcoeffillaaDoorW.PrintWords Go.Proofs.YtgcgpcoeffillaaDoorW.PrintLast Go.Proofs.YtgcgpcoeffillaaDoorW.PrintMore
set_option linter.unusedSimpArgs false

/-- Is a text a path? -/
def isPath (l : List UInt8) : Bool := (partsL 47 l).all elemL
def withinL (p q : List UInt8) : Bool := isPath p && isPath q && (p ++ [47]).isPrefixOf (q ++ [47])

theorem elem_eq (s : ByteArray) (hs : s.size ≤ 1000000000) : path_element.f s = some (elemL (L s)) := by
  unfold path_element.f
  rw [if_pos hs]
  rfl
theorem partsB_get (c : UInt8) (s : ByteArray) (i : Nat) (h : i < (partsB c s).length) : L (partsB c s)[i] = (partsL c (L s))[i]'(by rw [← partsB_length]; exact h) := by simp [partsB, L_mk]
theorem part_le (c : UInt8) : ∀ (l : List UInt8) (p : List UInt8), p ∈ partsL c l → p.length ≤ l.length
  | [], p, hp => by simp [partsL] at hp; simp [hp]
  | b :: l, p, hp => by
    have ih := part_le c l
    obtain ⟨x, t, hx⟩ := partsL_split c l
    rw [partsL, hx] at hp
    rw [hx] at ih
    by_cases h : b = c
    · rw [if_pos h] at hp
      rcases List.mem_cons.1 hp with rfl | hp
      · simp
      · have := ih p hp; simp; omega
    · rw [if_neg h] at hp
      rcases List.mem_cons.1 hp with rfl | hp
      · have := ih x (by simp); simpa using this
      · have := ih p (by simp at hp ⊢; exact .inr hp); simp; omega
theorem Elements_loop (x l : List ByteArray) (hl : l.length ≤ 1000000001) (hm : ∀ s, s ∈ l → s.size ≤ 1000000000) (d : Nat) : ∀ i : Nat, i + d = l.length →
    Ev (fun k => path_Elements.l0 k x l l.length i) (if (l.drop i).all fun s => elemL (L s) then (x, 0) else ([], 1)) := by
  induction d with
  | zero =>
    intro i hi
    refine ev_step (fun k => by rw [path_Elements.l0]) ?_
    refine ev_neg (by omega) (ev_now ?_)
    rw [List.drop_eq_nil_of_le (by omega)]; rfl
  | succ d ih =>
    intro i hi
    have hil : i < l.length := by omega
    refine ev_step (fun k => by rw [path_Elements.l0]) ?_
    refine ev_pos (by omega) (ev_pos (by omega) (ev_pos (by omega) ?_))
    rw [rdOf_at _ l i hil, elem_eq _ (hm _ (List.getElem_mem _)), w_succ i (by omega), List.drop_eq_getElem_cons hil, List.all_cons]
    refine ev_some ?_
    refine ev_ite (fun h => ?_) (fun h => ?_)
    · rw [h, Bool.true_and]
      exact ih (i + 1) (by omega)
    · have h' : elemL (L l[i]) = false := by simpa using h
      rw [h', Bool.false_and]
      exact ev_now rfl
theorem Elements_ev (s : ByteArray) (hs : s.size ≤ 1000000000) : Ev (fun k => path_Elements.f k s) (if isPath (L s) then (partsB 47 s, 0) else ([], 1)) := by
  unfold path_Elements.f
  have hl := (partsL_length 47 (L s)).1
  have hz := L_size s
  rw [Parts_eq s 47 (by decide) (by decide) hs]
  refine ev_some ?_
  have h := Elements_loop (partsB 47 s) (partsB 47 s) (by rw [partsB_length]; omega) (fun p hp => by
    simp only [partsB, List.mem_map] at hp
    obtain ⟨q, hq, rfl⟩ := hp
    have := part_le 47 (L s) q hq
    rw [← L_size, L_mk]; omega) (partsB 47 s).length 0 (by omega)
  have he : ((partsB 47 s).drop 0).all (fun s => elemL (L s)) = isPath (L s) := by
    unfold isPath partsB
    rw [List.drop_zero, List.all_map]
    rfl
  rw [he] at h
  exact h
theorem May_ev (s : ByteArray) (hs : s.size ≤ 1000000000) : Ev (fun k => path_May.f k s) (isPath (L s)) := by
  unfold path_May.f
  refine ev_bind (Elements_ev s hs) (ev_now ?_)
  cases isPath (L s) <;> rfl

theorem HasPrefix_eq (a b : ByteArray) : strings_HasPrefix.f a b = some ((L b).isPrefixOf (L a)) := by
  unfold strings_HasPrefix.f stringslite_HasPrefix.f
  have sa := L_size a
  have sb := L_size b
  by_cases h : (a.size : Int) ≥ (b.size : Int)
  · rw [if_pos h, if_pos (by omega), if_pos (by omega), Option.bind_some, Int.toNat_natCast]
    congr 1
    rw [toList_L, toList_L, L_extract, List.drop_zero, Nat.sub_zero, ← sb]
    rw [Bool.eq_iff_iff, beq_iff_eq, List.isPrefixOf_iff_prefix, List.prefix_iff_eq_take]
    exact ⟨fun e => e.symm, fun e => e.symm⟩
  · rw [if_neg h, Option.bind_some]
    congr 1
    symm
    rw [Bool.eq_false_iff]
    intro hp
    have := (List.isPrefixOf_iff_prefix.1 hp).length_le
    omega
theorem Within_ev (p q : ByteArray) (hp : p.size ≤ 1000000000) (hq : q.size ≤ 1000000000) : Ev (fun k => path_Within.f k p q) (withinL (L p) (L q)) := by
  unfold path_Within.f withinL
  refine ev_bind (May_ev p hp) ?_
  refine ev_ite (fun h => ?_) (fun h => ?_)
  · refine ev_bind (May_ev q hq) ?_
    refine ev_ite (fun h' => ?_) (fun h' => ?_)
    · refine ev_pos (by omega) (ev_pos (by omega) ?_)
      rw [HasPrefix_eq, L_append, L_append, h, h']
      exact ev_now rfl
    · have h'' : isPath (L q) = false := by simpa using h'
      rw [h'', Bool.and_false, Bool.false_and]
      exact ev_now rfl
  · have h'' : isPath (L p) = false := by simpa using h
    rw [h'', Bool.false_and, Bool.false_and]
    exact ev_now rfl
theorem joinOf_eq : ∀ l : List ByteArray, joinOf l ⟨#[47]⟩ = joinL 47 (l.map L)
  | [] => rfl
  | [x] => by
    show Lib.join [x.data.toList] [47] = _
    rw [Lib.join_one]; rfl
  | x :: y :: l => by
    have ih := joinOf_eq (y :: l)
    unfold joinOf at ih ⊢
    rw [List.map_cons, List.map_cons, Lib.join_cons] at ih
    rw [List.map_cons, List.map_cons, Lib.join_cons, List.map_cons, joinL_cons _ _ _ (by simp)]
    show _ = L x ++ 47 :: joinL 47 (L y :: List.map L l)
    rw [← ih]
    simp [Lib.joinTail, L]
theorem Join_loop (x l : List ByteArray) (hl : l.length ≤ 1000000001) (hx : x.length ≤ 1000000000) (hj : (joinL 47 (x.map L)).length ≤ 1000000000) (hm : ∀ s, s ∈ l → s.size ≤ 1000000000) (d : Nat) : ∀ i : Nat, i + d = l.length →
    Ev (fun k => path_Join.l0 k x l l.length i) (if ((l.drop i).all fun s => elemL (L s)) && !x.isEmpty then (⟨(joinL 47 (x.map L)).toArray⟩, 0) else (⟨#[]⟩, 1)) := by
  induction d with
  | zero =>
    intro i hi
    refine ev_step (fun k => by rw [path_Join.l0]) ?_
    refine ev_neg (by omega) ?_
    rw [List.drop_eq_nil_of_le (by omega), List.all_nil, Bool.true_and]
    refine ev_ite (fun h => ?_) (fun h => ?_)
    · have hn : x = [] := List.eq_nil_of_length_eq_zero (by omega)
      subst hn
      exact ev_now rfl
    · have hn : x.isEmpty = false := by
        cases x with
        | nil => simp at h
        | cons a b => rfl
      rw [hn]
      unfold strings_Join.f
      rw [if_pos hx, joinOf_eq, if_pos hj]
      exact ev_now rfl
  | succ d ih =>
    intro i hi
    have hil : i < l.length := by omega
    refine ev_step (fun k => by rw [path_Join.l0]) ?_
    refine ev_pos (by omega) (ev_pos (by omega) (ev_pos (by omega) ?_))
    rw [rdOf_at _ l i hil, elem_eq _ (hm _ (List.getElem_mem _)), w_succ i (by omega), List.drop_eq_getElem_cons hil, List.all_cons]
    refine ev_some ?_
    refine ev_ite (fun h => ?_) (fun h => ?_)
    · rw [h, Bool.true_and]
      exact ih (i + 1) (by omega)
    · have h' : elemL (L l[i]) = false := by simpa using h
      rw [h', Bool.false_and, Bool.false_and]
      exact ev_now rfl
/-- What Join answers. -/
def joinedL (l : List ByteArray) : ByteArray × Int := if (l.all fun s => elemL (L s)) && !l.isEmpty then (⟨(joinL 47 (l.map L)).toArray⟩, 0) else (⟨#[]⟩, 1)
theorem Join_ev (l : List ByteArray) (hl : l.length ≤ 1000000000) (hj : (joinL 47 (l.map L)).length ≤ 1000000000) (hm : ∀ s, s ∈ l → s.size ≤ 1000000000) : Ev (fun k => path_Join.f k l) (joinedL l) := by
  have h := Join_loop l l (by omega) hl hj hm l.length 0 (by omega)
  rw [List.drop_zero] at h
  exact h

/-! ### plain facts on paths -/
theorem isPath_join {l : List (List UInt8)} (hne : l ≠ []) (h : l.all elemL = true) : isPath (joinL 47 l) = true ∧ partsL 47 (joinL 47 l) = l := by
  have hf : ∀ p, p ∈ l → (47 : UInt8) ∉ p := by
    intro p hp hin
    have he := List.all_eq_true.1 h p hp
    unfold elemL elemPre at he
    simp only [Bool.and_eq_true, List.all_eq_true] at he
    have := he.1.1 47 hin
    exact absurd this (by decide)
  have := partsL_join 47 l hne hf
  unfold isPath
  rw [this]
  exact ⟨h, rfl⟩
theorem isPath_app (p q : List UInt8) : isPath (p ++ 47 :: q) = (isPath p && isPath q) := by
  unfold isPath
  rw [partsL_append, List.all_append]
theorem slash_prefix (p q : List UInt8) : (p ++ [47]).isPrefixOf (q ++ [47]) = true ↔ p = q ∨ ∃ r, q = p ++ 47 :: r := by
  rw [List.isPrefixOf_iff_prefix]
  constructor
  · rintro ⟨t, ht⟩
    rw [List.append_assoc] at ht
    rcases List.eq_nil_or_concat t with rfl | ⟨t', b, rfl⟩
    · left
      simpa using ht
    · right
      refine ⟨t', ?_⟩
      have h2 : p ++ ([47] ++ (t'.concat b)) = (p ++ 47 :: t') ++ [b] := by simp
      rw [h2] at ht
      exact (List.append_inj' ht rfl).1.symm
  · rintro (rfl | ⟨r, rfl⟩)
    · exact List.prefix_refl _
    · exact ⟨r ++ [47], by simp⟩
theorem withinL_iff (p q : List UInt8) : withinL p q = true ↔ isPath p = true ∧ isPath q = true ∧ (p = q ∨ ∃ r, q = p ++ 47 :: r) := by
  unfold withinL
  rw [Bool.and_eq_true, Bool.and_eq_true, slash_prefix]
  exact ⟨fun ⟨⟨a, b⟩, c⟩ => ⟨a, b, c⟩, fun ⟨a, b, c⟩ => ⟨⟨a, b⟩, c⟩⟩

theorem awake4_ev : Ev (fun k => graftwoodlaw04_awake.f k) true := by
  unfold graftwoodlaw04_awake.f
  refine ev_bind (Join_ev [] (by decide) (by decide) (by simp)) ?_
  refine ev_bind (May_ev _ (by decide)) (ev_pos (by decide +kernel) ?_)
  refine ev_bind (May_ev _ (by decide)) (ev_neg (by decide +kernel) ?_)
  refine ev_bind (May_ev _ (by decide)) (ev_neg (by decide +kernel) ?_)
  refine ev_bind (May_ev _ (by decide)) (ev_neg (by decide +kernel) ?_)
  refine ev_bind (Within_ev _ _ (by decide) (by decide)) (ev_pos (by decide +kernel) ?_)
  refine ev_bind (Within_ev _ _ (by decide) (by decide)) (ev_neg (by decide +kernel) ?_)
  exact ev_now rfl
/-! ### the reference -/
theorem elemOk_iff (b : UInt8) : elemOk b = true ↔ ¬ clsOf b.toNat < 1 ∧ ¬ clsOf b.toNat > 3 := by
  unfold elemOk
  have := clsOf_range b.toNat
  simp only [List.contains_iff_mem, List.mem_cons, List.not_mem_nil, or_false]
  omega
theorem refElem_loop (s : ByteArray) (hs : (L s).length ≤ 1000000000) (d : Nat) : ∀ i : Nat, i + d = (L s).length → Ev (fun k => graftwoodref04_Element.l0 k s i) (((L s).drop i).all elemOk) := by
  have sz := L_size s
  induction d with
  | zero =>
    intro i hi
    refine ev_step (fun k => by rw [graftwoodref04_Element.l0]) ?_
    refine ev_neg (by omega) (ev_now ?_)
    rw [List.drop_eq_nil_of_le (by omega)]; rfl
  | succ d ih =>
    intro i hi
    have hil : i < (L s).length := by omega
    have hb := (L s)[i].toNat_lt
    refine ev_step (fun k => by rw [graftwoodref04_Element.l0]) ?_
    refine ev_pos (by omega) (ev_pos (by omega) ?_)
    rw [bt_L s i hil, List.drop_eq_getElem_cons hil, List.all_cons, w_succ i (by omega)]
    refine ev_bind (refClass_ev _ (by omega) (by omega)) ?_
    by_cases hok : elemOk (L s)[i] = true
    · have h := (elemOk_iff _).1 hok
      rw [hok, Bool.true_and]
      exact ev_neg h.1 (ev_neg h.2 (ih (i + 1) (by omega)))
    · have hno : elemOk (L s)[i] = false := by simpa using hok
      rw [hno, Bool.false_and]
      refine ev_ite (fun _ => ev_now rfl) (fun h1 => ?_)
      exact ev_pos (Decidable.byContradiction fun h3 => hok ((elemOk_iff _).2 ⟨h1, h3⟩)) (ev_now rfl)
theorem refElem_ev (s : ByteArray) (hs : s.size ≤ 1000000000) : Ev (fun k => graftwoodref04_Element.f k s) (elemL (L s)) := by
  have sz := L_size s
  unfold graftwoodref04_Element.f
  have hj : ∀ b : Bool, elemL (L s) = (!b && (L s).all elemOk) → Ev (fun k => graftwoodref04_Element.j0 k s b) (elemL (L s)) := by
    intro b hb
    refine ev_step (fun k => by rw [graftwoodref04_Element.j0]) ?_
    cases b with
    | true => exact ev_pos rfl (ev_now (by rw [hb]; rfl))
    | false =>
      refine ev_neg (by simp) ?_
      have h := refElem_loop s (by omega) (L s).length 0 (by omega)
      rw [List.drop_zero] at h
      rw [hb]
      exact h
  cases hL : L s with
  | nil =>
    rw [hL] at sz hj
    simp only [List.length_nil] at sz
    exact ev_pos (by omega) (hj _ rfl)
  | cons b t =>
    rw [hL] at sz hj
    simp only [List.length_cons] at sz
    refine ev_neg (by omega) (ev_pos (by omega) ?_)
    have h0 : bt s 0 = (b.toNat : Int) := by
      have := bt_L s 0 (by rw [hL]; simp)
      simpa [hL] using this
    have hlast : lastR (b :: t) = (((b :: t).getLast (by simp)).toNat : Int) := by
      unfold lastR
      rw [List.getLast?_eq_some_getLast (by simp)]
      rfl
    have hl : bt s (wrap64 ((s.size : Int) - 1)) = lastR (b :: t) := by
      have e : wrap64 ((s.size : Int) - 1) = (t.length : Int) := by rw [w_id (by omega) (by omega)]; omega
      have := bt_L s t.length (by rw [hL]; simp)
      rw [e, this, hlast, List.getLast_eq_getElem]
      congr 2
      simp [hL]
    rw [h0, hl]
    have hb46 : ((b.toNat : Int) = 46) ↔ b = 46 := ⟨fun e => UInt8.toNat_inj.1 (by have : (46 : UInt8).toNat = 46 := rfl; omega), fun e => by rw [e]; rfl⟩
    have hval : elemL (b :: t) = ((b :: t).all elemOk && !(b == 46) && !(lastR (b :: t) == 46)) := by
      unfold elemL elemPre
      simp
    refine ev_ite (fun h => ?_) (fun h => ?_)
    · refine hj _ ?_
      rw [hval, hb46.1 h]
      simp
    · have hbn : (b == 46) = false := beq_eq_false_iff_ne.2 (fun e => h (hb46.2 e))
      refine ev_pos (by rw [w_id (by omega) (by omega)]; omega) (ev_pos (by rw [w_id (by omega) (by omega)]; omega) (hj _ ?_))
      rw [hval, hbn]
      cases (b :: t).all elemOk <;> cases (lastR (b :: t) == 46) <;> rfl
theorem refMay4_loop (l : List ByteArray) (hl : l.length ≤ 1000000001) (hm : ∀ s, s ∈ l → s.size ≤ 1000000000) (d : Nat) : ∀ i : Nat, i + d = l.length →
    Ev (fun k => graftwoodref04_May.l0 k l i) ((l.drop i).all fun s => elemL (L s)) := by
  induction d with
  | zero =>
    intro i hi
    refine ev_step (fun k => by rw [graftwoodref04_May.l0]) ?_
    refine ev_neg (by omega) (ev_now ?_)
    rw [List.drop_eq_nil_of_le (by omega)]; rfl
  | succ d ih =>
    intro i hi
    have hil : i < l.length := by omega
    refine ev_step (fun k => by rw [graftwoodref04_May.l0]) ?_
    refine ev_pos (by omega) (ev_pos (by omega) ?_)
    rw [rdOf_at _ l i hil, w_succ i (by omega), List.drop_eq_getElem_cons hil, List.all_cons]
    refine ev_bind (refElem_ev _ (hm _ (List.getElem_mem _))) ?_
    refine ev_ite (fun h => ?_) (fun h => ?_)
    · rw [h, Bool.true_and]
      exact ih (i + 1) (by omega)
    · have h' : elemL (L l[i]) = false := by simpa using h
      rw [h', Bool.false_and]
      exact ev_now rfl
theorem refMay4_ev (s : ByteArray) (hs : s.size ≤ 1000000000) : Ev (fun k => graftwoodref04_May.f k s) (isPath (L s)) := by
  unfold graftwoodref04_May.f
  have hl := (partsL_length 47 (L s)).1
  have hz := L_size s
  refine ev_bind (refParts_ev s 47 (by decide) (by decide) hs) ?_
  have h := refMay4_loop (partsB 47 s) (by rw [partsB_length]; omega) (fun p hp => by
    simp only [partsB, List.mem_map] at hp
    obtain ⟨q, hq, rfl⟩ := hp
    have := part_le 47 (L s) q hq
    rw [← L_size, L_mk]; omega) (partsB 47 s).length 0 (by omega)
  have he : ((partsB 47 s).drop 0).all (fun s => elemL (L s)) = isPath (L s) := by
    unfold isPath partsB
    rw [List.drop_zero, List.all_map]
    rfl
  rw [he] at h
  exact h
theorem parts_prefix (p q : List UInt8) : partsL 47 p <+: partsL 47 q ↔ p = q ∨ ∃ r, q = p ++ 47 :: r := by
  constructor
  · rintro ⟨t, ht⟩
    have hq := joinL_parts 47 q
    rw [← ht] at hq
    cases t with
    | nil => left; rw [List.append_nil, joinL_parts] at hq; exact hq
    | cons y t =>
      right
      refine ⟨joinL 47 (y :: t), ?_⟩
      have hj : ∀ a : List (List UInt8), a ≠ [] → joinL 47 (a ++ y :: t) = joinL 47 a ++ 47 :: joinL 47 (y :: t) := by
        intro a
        induction a with
        | nil => intro h; exact absurd rfl h
        | cons x a ih =>
          intro _
          cases a with
          | nil => exact joinL_cons 47 x _ (by simp)
          | cons z a =>
            have := ih (by simp)
            rw [List.cons_append, joinL_cons 47 x _ (by simp), this, joinL_cons 47 x (z :: a) (by simp)]
            simp
      rw [← hq, hj _ (partsL_ne 47 p), joinL_parts]
  · rintro (rfl | ⟨r, rfl⟩)
    · exact List.prefix_refl _
    · rw [partsL_append]; exact List.prefix_append _ _
theorem refWithin_ev (p q : ByteArray) (hp : p.size ≤ 1000000000) (hq : q.size ≤ 1000000000) : Ev (fun k => graftwoodref04_Within.f k p q) (withinL (L p) (L q)) := by
  have hlp := (partsL_length 47 (L p)).1
  have hlq := (partsL_length 47 (L q)).1
  have hzp := L_size p
  have hzq := L_size q
  unfold graftwoodref04_Within.f
  have htrue : isPath (L p) = true → (b : Bool) → b = true → withinL (L p) (L q) = false → Ev (fun k => graftwoodref04_Within.j0 k p q b) (withinL (L p) (L q)) := by
    intro _ b hb hw
    subst hb
    rw [hw]
    refine ev_step (fun k => by rw [graftwoodref04_Within.j0]) ?_
    exact ev_pos rfl (ev_now rfl)
  refine ev_bind (refMay4_ev p hp) ?_
  refine ev_ite (fun h1 => ?_) (fun h1 => ?_)
  · refine ev_bind (refMay4_ev q hq) ?_
    cases h2 : isPath (L q) with
    | false => exact htrue h1 _ rfl (by unfold withinL; rw [h2]; simp)
    | true =>
      refine ev_step (fun k => by rw [graftwoodref04_Within.j0]) ?_
      refine ev_neg (by simp) ?_
      refine ev_bind (refParts_ev p 47 (by decide) (by decide) hp) (ev_bind (refParts_ev q 47 (by decide) (by decide) hq) ?_)
      have hnum : (47 : Int).toNat.toUInt8 = 47 := rfl
      rw [hnum]
      have hw : withinL (L p) (L q) = decide (partsL 47 (L p) <+: partsL 47 (L q)) := by
        rw [Bool.eq_iff_iff, withinL_iff, decide_eq_true_eq, parts_prefix]
        exact ⟨fun h => h.2.2, fun h => ⟨h1, h2, h⟩⟩
      refine ev_ite (fun h => ?_) (fun h => ?_)
      · refine ev_pos (by omega) ?_
        rw [Int.toNat_natCast]
        refine ev_bind (refSame_ev _ _ (by rw [partsB_length]; omega)) (ev_now ?_)
        rw [hw]
        congr 1
        rw [List.prefix_iff_eq_take, partsB_length]
        unfold partsB
        rw [← List.map_take, eq_iff_iff]
        constructor
        · intro e
          have := congrArg (List.map L) e
          simpa [List.map_map, Function.comp_def, L_mk] using this
        · intro e
          conv => lhs; rw [e]
      · refine ev_now ?_
        rw [hw]
        symm
        rw [decide_eq_false_iff_not]
        intro hpre
        have := hpre.length_le
        rw [partsB_length, partsB_length] at h
        omega
  · have h1' : isPath (L p) = false := by simpa using h1
    have hw : withinL (L p) (L q) = false := by unfold withinL; rw [h1']; simp
    rw [hw]
    refine ev_step (fun k => by rw [graftwoodref04_Within.j0]) ?_
    exact ev_pos rfl (ev_now rfl)
/-! ### what the laws of paths need -/
theorem size_slash (a b : ByteArray) : ((a ++ (⟨#[47]⟩ : ByteArray)) ++ b).size = a.size + 1 + b.size := by
  rw [size_app, size_app]; rfl
theorem L_slash (a b : ByteArray) : L ((a ++ (⟨#[47]⟩ : ByteArray)) ++ b) = L a ++ 47 :: L b := by
  rw [L_append, L_append, List.append_assoc]; rfl
theorem elem_free {p : List UInt8} (h : elemL p = true) : (47 : UInt8) ∉ p := by
  intro hin
  unfold elemL elemPre at h
  simp only [Bool.and_eq_true, List.all_eq_true] at h
  exact absurd (h.1.1 47 hin) (by decide)
theorem isPath_joinL {l : List (List UInt8)} (hne : l ≠ []) (hf : ∀ p, p ∈ l → (47 : UInt8) ∉ p) : isPath (joinL 47 l) = l.all elemL := by
  unfold isPath
  rw [partsL_join 47 l hne hf]
theorem within_self (p : List UInt8) : withinL p p = isPath p := by
  rw [Bool.eq_iff_iff, withinL_iff]
  exact ⟨fun h => h.1, fun h => ⟨h, h, .inl rfl⟩⟩
theorem within_app (p q : List UInt8) : withinL p (p ++ 47 :: q) = (isPath p && isPath q) := by
  rw [Bool.eq_iff_iff, withinL_iff, isPath_app, Bool.and_eq_true]
  exact ⟨fun h => h.2.1, fun h => ⟨h.1, h, .inr ⟨q, rfl⟩⟩⟩
theorem within_back (p q : List UInt8) : withinL (p ++ 47 :: q) p = false := by
  rw [Bool.eq_false_iff]
  intro h
  obtain ⟨-, -, h | ⟨r, h⟩⟩ := (withinL_iff _ _).1 h
  · have := congrArg List.length h; simp only [List.length_append, List.length_cons] at this; omega
  · have := congrArg List.length h; simp only [List.length_append, List.length_cons] at this; omega
theorem within_trans {p q r : List UInt8} (h : withinL p q = true) (h' : withinL q r = true) : withinL p r = true := by
  obtain ⟨a, b, h⟩ := (withinL_iff _ _).1 h
  obtain ⟨-, c, h'⟩ := (withinL_iff _ _).1 h'
  refine (withinL_iff _ _).2 ⟨a, c, ?_⟩
  rcases h with rfl | ⟨x, rfl⟩
  · exact h'
  · right
    rcases h' with rfl | ⟨y, rfl⟩
    · exact ⟨x, rfl⟩
    · exact ⟨x ++ 47 :: y, by simp⟩
theorem within_anti {p q : List UInt8} (h : withinL p q = true) (h' : withinL q p = true) : p = q := by
  obtain ⟨-, -, h | ⟨x, rfl⟩⟩ := (withinL_iff _ _).1 h
  · exact h
  · rw [within_back] at h'; cases h'
theorem within_left {p q : List UInt8} (h : withinL p q = true) : isPath p = true := ((withinL_iff _ _).1 h).1
theorem within_right {p q : List UInt8} (h : withinL p q = true) : isPath q = true := ((withinL_iff _ _).1 h).2.1
theorem joinL_snoc (c : UInt8) (y : List UInt8) : ∀ l : List (List UInt8), l ≠ [] → joinL c (l ++ [y]) = joinL c l ++ c :: y
  | [], h => absurd rfl h
  | [x], _ => rfl
  | x :: z :: l, _ => by
    have ih := joinL_snoc c y (z :: l) (by simp)
    rw [List.cons_append, joinL_cons c x _ (by simp), ih, joinL_cons c x (z :: l) (by simp)]
    simp
theorem joinL_small (c : UInt8) (n : Nat) : ∀ l : List (List UInt8), (∀ x, x ∈ l → x.length ≤ n) → (joinL c l).length ≤ (n + 1) * l.length
  | [], _ => by simp [joinL]
  | [x], h => by have := h x (by simp); simp [joinL]; omega
  | x :: y :: l, h => by
    have ih := joinL_small c n (y :: l) (fun z hz => h z (by simp at hz ⊢; exact .inr hz))
    have := h x (by simp)
    rw [joinL_cons c x _ (by simp)]
    simp only [List.length_append, List.length_cons] at ih ⊢
    have e : (n + 1) * (l.length + 1 + 1) = (n + 1) * (l.length + 1) + (n + 1) := by rw [Nat.mul_add]; omega
    omega
theorem partsB_map (c : UInt8) (s : ByteArray) : (partsB c s).map L = partsL c (L s) := by
  unfold partsB
  rw [List.map_map]
  exact List.map_id'' (fun _ => rfl) _
theorem joinB_parts (s : ByteArray) : joinL 47 ((partsB 47 s).map L) = L s := by rw [partsB_map, joinL_parts]
theorem partsB_all (s : ByteArray) : ((partsB 47 s).all fun s => elemL (L s)) = isPath (L s) := by
  unfold isPath partsB
  rw [List.all_map]
  rfl
theorem partsB_ne (c : UInt8) (s : ByteArray) : partsB c s ≠ [] := by
  unfold partsB
  intro h
  exact partsL_ne c (L s) (List.map_eq_nil_iff.1 h)
theorem partsB_size (c : UInt8) (s : ByteArray) : ∀ p, p ∈ partsB c s → p.size ≤ s.size := by
  intro p hp
  simp only [partsB, List.mem_map] at hp
  obtain ⟨q, hq, rfl⟩ := hp
  have := part_le c (L s) q hq
  rw [← L_size, L_mk, ← L_size]; exact this
theorem joined_parts (s : ByteArray) (h : isPath (L s) = true) : joinedL (partsB 47 s) = (s, 0) := by
  unfold joinedL
  have hne : (partsB 47 s).isEmpty = false := by
    have := partsB_ne 47 s
    cases hq : partsB 47 s with
    | nil => exact absurd hq this
    | cons => rfl
  rw [partsB_all, h, hne, joinB_parts, mk_L]
  rfl
theorem joined_snoc (s t : ByteArray) (h : isPath (L s) = true) : joinedL (partsB 47 s ++ [t]) = if elemL (L t) = true then ((s ++ (⟨#[47]⟩ : ByteArray)) ++ t, 0) else (⟨#[]⟩, 1) := by
  unfold joinedL
  have hne : (partsB 47 s ++ [t]).isEmpty = false := by simp
  rw [List.all_append, partsB_all, h, hne, List.map_append, List.map_cons, List.map_nil, joinL_snoc _ _ _ (by intro h; exact partsB_ne 47 s (List.map_eq_nil_iff.1 h)), joinB_parts]
  have e : (⟨(L s ++ 47 :: L t).toArray⟩ : ByteArray) = (s ++ (⟨#[47]⟩ : ByteArray)) ++ t := L_inj (by rw [L_slash]; rfl)
  rw [e]
  simp
end Go.Proofs.YtgcgpcoeffillaaDoor.Q
