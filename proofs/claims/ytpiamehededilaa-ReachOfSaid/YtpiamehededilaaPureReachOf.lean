import Derived.Test.YtpiamehededilaaWWords
import Derived.Test.YtpiamehededilaaWMore
import Derived.Lib.Strings
import Derived.Test.YtpiamehededilaaP9
import Derived.Test.YtpiamehededilaaP11
import Derived.Test.YtpiamehededilaaP12
import Derived.Test.YtpiamehededilaaP14
import Derived.Test.YtpiamehededilaaP6
import Derived.Test.YtpiamehededilaaP8
import Derived.Test.YtpiamehededilaaP2
import Derived.Test.YtpiamehededilaaP10
import Derived.Test.YtpiamehededilaaP13
import Derived.Test.YtpiamehededilaaP20
import Derived.Test.YtpiamehededilaaP21
import Derived.Test.YtpiamehededilaaGReachOf
/-
  Plain lemmas: 'eventually' (Ev) over the number of rounds, lists of octets. No program in sight.
-/
namespace Go.Proofs.YtpiamehededilaaB
open Go.RowKit Go.Proofs.YtpiamehededilaaW.PrintWords Go.Proofs.YtpiamehededilaaW.PrintLast Go.Proofs.YtpiamehededilaaW.PrintMore

theorem ev_rounds {α : Type} {g : Nat → Option α} {r : α} (h : Ev g r) : ∃ k, g k = some r := by
  obtain ⟨K, hK⟩ := h
  exact ⟨K, hK K (Nat.le_refl _)⟩
theorem ev_bind {α β : Type} {g : Nat → Option α} {f : Nat → α → Option β} {a : α} {r : β} (h : Ev g a) (k : Ev (fun n => f n a) r) : Ev (fun n => (g n).bind (f n)) r := Ev.bind h k
theorem ev_some {α β : Type} {f : Nat → α → Option β} {a : α} {r : β} (k : Ev (fun n => f n a) r) : Ev (fun n => (some a).bind (f n)) r := k
theorem ev_pos {α : Type} {c : Prop} [Decidable c] {f g : Nat → Option α} {r : α} (h : c) (k : Ev f r) : Ev (fun n => if c then f n else g n) r := by
  simpa only [if_pos h] using k
theorem ev_neg {α : Type} {c : Prop} [Decidable c] {f g : Nat → Option α} {r : α} (h : ¬ c) (k : Ev g r) : Ev (fun n => if c then f n else g n) r := by
  simpa only [if_neg h] using k
theorem ev_ite {α : Type} {c : Prop} [Decidable c] {f g : Nat → Option α} {r : α} (h : c → Ev f r) (k : ¬ c → Ev g r) : Ev (fun n => if c then f n else g n) r := by
  by_cases hc : c
  · exact ev_pos hc (h hc)
  · exact ev_neg hc (k hc)
theorem ev_now {α : Type} {a r : α} (h : a = r) : Ev (fun _ => some a) r := by subst h; exact ⟨0, fun _ _ => rfl⟩
theorem ev_last {α : Type} {g : Nat → Option α} {r : α} (h : Ev g r) : Ev (fun n => (g n).bind fun t => some t) r := ev_bind h (ev_now rfl)
theorem ev_step {α : Type} {g f : Nat → Option α} {r : α} (h : ∀ k, g (k + 1) = f k) (k : Ev f r) : Ev g r := Ev.step h k

/-! ### numbers -/
theorem w_id {i : Int} (h0 : -9223372036854775808 ≤ i) (h1 : i ≤ 9223372036854775807) : wrap64 i = i := by unfold wrap64; omega
theorem w_succ (i : Nat) (h : i ≤ 4611686018427387904) : wrap64 ((i : Int) + 1) = ((i + 1 : Nat) : Int) := by
  have h1 : wrap64 ((i : Int) + 1) = (i : Int) + 1 := w_id (by omega) (by omega)
  rw [h1]; rfl
theorem drop_nil {α : Type} (l : List α) (i : Nat) (h : l.length ≤ i) : l.drop i = [] := List.drop_eq_nil_of_le h
theorem dec_cons {α : Type} [DecidableEq α] (a b : α) (x y : List α) (h : a = b) : decide (a :: x = b :: y) = decide (x = y) := by subst h; simp
theorem dec_cons_ne {α : Type} [DecidableEq α] (a b : α) (x y : List α) (h : ¬ a = b) : decide (a :: x = b :: y) = false := by simp [h]

/-! ### texts -/
/-- A text's octets. -/
def L (s : ByteArray) : List UInt8 := s.data.toList
/-! ### the order of texts -/
theorem less_eq : ∀ (x y : List UInt8), Op.bytesLess x y = decide (x < y)
  | [], [] => by simp [Op.bytesLess]
  | _ :: _, [] => by simp [Op.bytesLess]
  | [], _ :: _ => by simp [Op.bytesLess]
  | a :: x, b :: y => by
    rw [Op.bytesLess, less_eq x y]
    simp only [List.cons_lt_cons_iff]
    by_cases h1 : a < b <;> by_cases h2 : a = b <;> by_cases h3 : x < y <;> simp [h1, h2, h3]
/-- Two texts held against one another. -/
def cmpL (x y : List UInt8) : Int := if x < y then -1 else if y < x then 1 else 0
end Go.Proofs.YtpiamehededilaaB

/-
  What is reached over edges, from the beginning and step by step. No program in sight.
-/
namespace Go.Proofs.Ytpiamehededilaa.Q
open Go.RowKit Go.Proofs.Ytpiamehededilaa.P Go.Proofs.YtpiamehededilaaB Go.Proofs.YtpiamehededilaaW.PrintWords Go.Proofs.YtpiamehededilaaW.PrintLast Go.Proofs.YtpiamehededilaaW.PrintMore
set_option linter.unusedSimpArgs false
set_option linter.unusedVariables false
abbrev Ed := S36
theorem srt_eq : ∀ {a b : List Int}, a.Pairwise (· < ·) → b.Pairwise (· < ·) → (∀ x, x ∈ a ↔ x ∈ b) → a = b
  | [], [], _, _, _ => rfl
  | [], y :: b, _, _, h => absurd ((h y).2 (List.mem_cons_self ..)) (by simp)
  | x :: a, [], _, _, h => absurd ((h x).1 (List.mem_cons_self ..)) (by simp)
  | x :: a, y :: b, ha, hb, h => by
    obtain ⟨ha1, ha2⟩ := List.pairwise_cons.1 ha
    obtain ⟨hb1, hb2⟩ := List.pairwise_cons.1 hb
    have e : x = y := by
      have h1 := (h x).1 (List.mem_cons_self ..)
      have h2 := (h y).2 (List.mem_cons_self ..)
      rcases List.mem_cons.1 h1 with e | h1
      · exact e
      · rcases List.mem_cons.1 h2 with e | h2
        · exact e.symm
        · have := ha1 _ h2
          have := hb1 _ h1
          omega
    subst e
    rw [srt_eq ha2 hb2 (fun z => ?_)]
    have hz := h z
    rw [List.mem_cons, List.mem_cons] at hz
    constructor
    · intro hm
      rcases hz.1 (.inr hm) with e | hm2
      · have := ha1 z hm
        omega
      · exact hm2
    · intro hm
      rcases hz.2 (.inr hm) with e | hm2
      · have := hb1 z hm
        omega
      · exact hm2
/-- An edge leads from a to y. -/
def E (l : List Ed) (a y : Int) : Prop := ∃ e, e ∈ l ∧ e.f0 = a ∧ e.f1 = y
/-- What is reached from the root. -/
def R (l : List Ed) (x : Int) : Prop := Rch (NextF l) (fun _ => False) [-1] x
theorem mem_nextF {l : List Ed} {a y : Int} : y ∈ NextF l a ↔ E l a y := mem_NextF
theorem R.step {l : List Ed} {a y : Int} (h : a = -1 ∨ R l a) (hE : E l a y) : R l y :=
  Rch.go (h.imp (fun e => by rw [e]; exact List.mem_singleton.2 rfl) id) (mem_nextF.2 hE) (fun h => h)
theorem R.ind {l : List Ed} {S : Int → Prop} (h : ∀ a y, (a = -1 ∨ (R l a ∧ S a)) → E l a y → S y) {x : Int} (hx : R l x) : S x := by
  have h2 : R l x ∧ S x := hx (fun z => R l z ∧ S z) (fun a y ha hy _ => by
    have ha2 : a = -1 ∨ (R l a ∧ S a) := ha.imp (fun h => List.mem_singleton.1 h) id
    exact ⟨R.step (ha2.imp id And.left) (mem_nextF.1 hy), h a y ha2 (mem_nextF.1 hy)⟩)
  exact h2.2
theorem R.mono {l l' : List Ed} (h : ∀ a y, E l a y → E l' a y) {x : Int} (hx : R l x) : R l' x :=
  R.ind (S := fun x => R l' x) (fun a y ha hE => R.step (ha.imp id And.right) (h a y hE)) hx
theorem R.congr {l l' : List Ed} (h : ∀ a y, E l a y ↔ E l' a y) (x : Int) : R l x ↔ R l' x :=
  ⟨R.mono (fun a y => (h a y).1), R.mono (fun a y => (h a y).2)⟩
theorem mem_liveF {l : List Ed} {x : Int} : x ∈ liveF l ↔ R l x := by
  unfold liveF
  rw [mem_sortI, mem_spreadF]
  exact Rch_congr (fun y => by simp) (fun y => Iff.rfl) x
theorem liveF_sorted (l : List Ed) : (liveF l).Pairwise (· < ·) := sortI_sorted (spreadF_nodup _ _ _)
theorem liveF_len (l : List Ed) : (liveF l).length ≤ l.length :=
  Nat.le_trans (nodup_le ((liveF_sorted l).imp (fun h => by omega)) (fun x hx => by unfold liveF at hx; exact mem_sortI.1 hx)) (spreadF_len _ _ _)
theorem liveF_eq {l : List Ed} {a : List Int} (ha : a.Pairwise (· < ·)) (h : ∀ x, x ∈ a ↔ R l x) : a = liveF l := srt_eq ha (liveF_sorted l) (fun x => (h x).trans mem_liveF.symm)
/-! ### a pair more -/
section
variable {l l' : List Ed} {a b : Int}
end

/-! ### a pair less -/
section
variable {l l' : List Ed} {a b : Int}
end
end Go.Proofs.Ytpiamehededilaa.Q

/-
  What the printed functions of layers 11 and 15 come to.
-/
namespace Go.Proofs.Ytpiamehededilaa.Q
open Go.RowKit Go.Proofs.Ytpiamehededilaa.P Go.Proofs.YtpiamehededilaaB Go.Proofs.YtpiamehededilaaW.PrintWords Go.Proofs.YtpiamehededilaaW.PrintLast Go.Proofs.YtpiamehededilaaW.PrintMore
set_option linter.unusedSimpArgs false
set_option linter.unusedVariables false
theorem ed_ext {x y : Ed} (h0 : x.f0 = y.f0) (h1 : x.f1 = y.f1) (h2 : x.f2 = y.f2) : x = y := by
  cases x; cases y; cases h0; cases h1; cases h2; rfl
theorem rdE_at (l : List Ed) (i : Nat) (h : i < l.length) : rd_T36 l (i : Int) = l[i] := by
  simp [rd_T36, List.getD_eq_getElem?_getD, h]
theorem rdI_at (l : List Int) (i : Nat) (h : i < l.length) : rd l (i : Int) = l[i] := by
  simp [rd, List.getD_eq_getElem?_getD, h]

/-! ### lists of numbers -/
theorem has_loop (l : List Int) (x : Int) (hl : l.length ≤ 1000000) (d : Nat) : ∀ i : Nat, i + d = l.length → Ev (fun k => graftwoodref11_Has.l0 k l x i) (decide (x ∈ l.drop i)) := by
  induction d with
  | zero =>
    intro i hi
    refine ev_step (fun k => by rw [graftwoodref11_Has.l0]) ?_
    exact ev_neg (by omega) (ev_now (by rw [drop_nil l i (by omega)]; rfl))
  | succ d ih =>
    intro i hi
    refine ev_step (fun k => by rw [graftwoodref11_Has.l0]) ?_
    rw [rdI_at l i (by omega), w_succ i (by omega), List.drop_eq_getElem_cons (by omega)]
    refine ev_pos (by omega) (ev_pos (by omega) (ev_ite (fun h => ev_now (by simp [h])) (fun h => ?_)))
    have := ih (i + 1) (by omega)
    rw [show decide (x ∈ l[i] :: l.drop (i + 1)) = decide (x ∈ l.drop (i + 1)) by rw [decide_eq_decide, List.mem_cons]; exact ⟨fun e => e.resolve_left (fun e => h e.symm), .inr⟩]
    exact this
theorem has_ev (l : List Int) (x : Int) (hl : l.length ≤ 1000000) : Ev (fun k => graftwoodref11_Has.f k l x) (decide (x ∈ l)) := by
  unfold graftwoodref11_Has.f
  exact has_loop l x hl l.length 0 (by omega)
theorem ints_loop (a b : List Int) (hab : a.length = b.length) (hl : a.length ≤ 1000000) (d : Nat) : ∀ i : Nat, i + d = a.length → Ev (fun k => graftwoodref11_Ints.l0 k a b i) (decide (a.drop i = b.drop i)) := by
  induction d with
  | zero =>
    intro i hi
    refine ev_step (fun k => by rw [graftwoodref11_Ints.l0]) ?_
    exact ev_neg (by omega) (ev_now (by rw [drop_nil a i (by omega), drop_nil b i (by omega)]; rfl))
  | succ d ih =>
    intro i hi
    refine ev_step (fun k => by rw [graftwoodref11_Ints.l0]) ?_
    rw [rdI_at a i (by omega), rdI_at b i (by omega), w_succ i (by omega), List.drop_eq_getElem_cons (by omega), List.drop_eq_getElem_cons (show i < b.length by omega)]
    refine ev_pos (by omega) (ev_pos (by omega) (ev_pos (by omega) (ev_ite (fun h => ?_) (fun h => ?_))))
    · rw [dec_cons _ _ _ _ h]
      exact ih (i + 1) (by omega)
    · exact ev_now (dec_cons_ne _ _ _ _ h).symm
theorem ints_ev (a b : List Int) (hl : a.length ≤ 1000000) : Ev (fun k => graftwoodref11_Ints.f k a b) (decide (a = b)) := by
  unfold graftwoodref11_Ints.f
  refine ev_ite (fun h => ints_loop a b (by omega) hl a.length 0 (by omega)) (fun h => ev_now ?_)
  rw [eq_comm, decide_eq_false_iff_not]
  intro e
  exact h (by rw [e])
theorem equal_loop (a b : List Int) (hab : a.length = b.length) (hl : a.length ≤ 1000000) (d : Nat) : ∀ i : Nat, i + d = a.length → Ev (fun k => slices_Equal_int_int.l0 k a b (a.length : Int) i) (decide (a.drop i = b.drop i)) := by
  induction d with
  | zero =>
    intro i hi
    refine ev_step (fun k => by rw [slices_Equal_int_int.l0]) ?_
    exact ev_neg (by omega) (ev_now (by rw [drop_nil a i (by omega), drop_nil b i (by omega)]; rfl))
  | succ d ih =>
    intro i hi
    refine ev_step (fun k => by rw [slices_Equal_int_int.l0]) ?_
    rw [rdI_at a i (by omega), rdI_at b i (by omega), w_succ i (by omega), List.drop_eq_getElem_cons (by omega), List.drop_eq_getElem_cons (show i < b.length by omega)]
    refine ev_pos (by omega) (ev_pos (by omega) (ev_pos (by omega) (ev_pos (by omega) (ev_ite (fun h => ?_) (fun h => ?_)))))
    · rw [dec_cons _ _ _ _ h]
      exact ih (i + 1) (by omega)
    · exact ev_now (dec_cons_ne _ _ _ _ h).symm
theorem equal_ev (a b : List Int) (hl : a.length ≤ 1000000) : Ev (fun k => slices_Equal_int_int.f k a b) (decide (a = b)) := by
  unfold slices_Equal_int_int.f
  refine ev_ite (fun h => equal_loop a b (by omega) hl a.length 0 (by omega)) (fun h => ev_now ?_)
  rw [eq_comm, decide_eq_false_iff_not]
  intro e
  exact h (by rw [e])
/-! ### edges: equal, in order -/
instance : DecidableEq Ed := fun x y => if h : x.f0 = y.f0 ∧ x.f1 = y.f1 ∧ x.f2 = y.f2 then isTrue (ed_ext h.1 h.2.1 h.2.2) else isFalse (fun e => h (by subst e; exact ⟨rfl, rfl, rfl⟩))
theorem same11_loop (a b : List Ed) (hab : a.length = b.length) (hl : a.length ≤ 1000000) (d : Nat) : ∀ i : Nat, i + d = a.length → Ev (fun k => graftwoodref11_Same.l0 k a b i) (decide (a.drop i = b.drop i)) := by
  induction d with
  | zero =>
    intro i hi
    refine ev_step (fun k => by rw [graftwoodref11_Same.l0]) ?_
    exact ev_neg (by omega) (ev_now (by rw [drop_nil a i (by omega), drop_nil b i (by omega)]; rfl))
  | succ d ih =>
    intro i hi
    refine ev_step (fun k => by rw [graftwoodref11_Same.l0]) ?_
    rw [rdE_at a i (by omega), rdE_at b i (by omega), w_succ i (by omega), List.drop_eq_getElem_cons (by omega), List.drop_eq_getElem_cons (show i < b.length by omega)]
    refine ev_pos (by omega) (ev_pos (by omega) (ev_pos (by omega) ?_))
    by_cases h : a[i] = b[i]
    · rw [dec_cons _ _ _ _ h]
      exact ev_neg (by rw [h]; simp) (ih (i + 1) (by omega))
    · refine ev_pos ?_ (ev_now (dec_cons_ne _ _ _ _ h).symm)
      simp only [Bool.or_eq_true, Bool.not_eq_true', beq_eq_false_iff_ne]
      refine Classical.byContradiction fun hn => h ?_
      simp only [not_or, Decidable.not_not, ne_eq] at hn
      exact ed_ext hn.1 hn.2.1 hn.2.2
theorem same11_ev (a b : List Ed) (hl : a.length ≤ 1000000) : Ev (fun k => graftwoodref11_Same.f k a b) (decide (a = b)) := by
  unfold graftwoodref11_Same.f
  refine ev_ite (fun h => same11_loop a b (by omega) hl a.length 0 (by omega)) (fun h => ev_now ?_)
  rw [eq_comm, decide_eq_false_iff_not]
  intro e
  exact h (by rw [e])
theorem same15_ev (a c : List Ed) (b d : List Int) (hl : a.length ≤ 1000000) (hb : b.length ≤ 1000000) : Ev (fun k => graftwoodref15_Same.f k a b c d) (decide (a = c ∧ b = d)) := by
  unfold graftwoodref15_Same.f
  refine ev_bind (same11_ev a c hl) ?_
  by_cases h : a = c
  · rw [decide_eq_true h]
    refine ev_pos rfl ?_
    rw [show decide (a = c ∧ b = d) = decide (b = d) by simp [h]]
    exact ev_last (ints_ev b d hb)
  · rw [decide_eq_false h]
    exact ev_neg (by decide) (ev_now (by simp [h]))
def ltE (x y : Ed) : Prop := x.f0 < y.f0 ∨ (x.f0 = y.f0 ∧ x.f1 < y.f1)
instance (x y : Ed) : Decidable (ltE x y) := inferInstanceAs (Decidable (_ ∨ _))
theorem ltE_trans {x y z : Ed} (h : ltE x y) (k : ltE y z) : ltE x z := by unfold ltE at *; omega
def okE (e : Ed) : Prop := -1 ≤ e.f0 ∧ 0 ≤ e.f1 ∧ 1 ≤ e.f2 ∧ e.f2 ≤ 1099511627776
instance (e : Ed) : Decidable (okE e) := inferInstanceAs (Decidable (_ ∧ _))
/-- Edges that may be. -/
def MayE (l : List Ed) : Prop := (∀ e ∈ l, okE e) ∧ l.Pairwise ltE
instance (l : List Ed) : Decidable (MayE l) := inferInstanceAs (Decidable (_ ∧ _))
/-- From the i-th on, the i-th being held against the one ahead. -/
def MayFrom (l : List Ed) (i : Nat) : Prop := ∀ j, (h : j < l.length) → i ≤ j → okE l[j] ∧ (0 < j → ltE (l[j - 1]'(by omega)) l[j])
theorem mayFrom_iff (l : List Ed) : MayE l ↔ MayFrom l 0 := by
  constructor
  · intro h j hj _
    refine ⟨h.1 _ (List.getElem_mem hj), fun h0 => ?_⟩
    exact List.pairwise_iff_getElem.1 h.2 (j - 1) j (by omega) hj (by omega)
  · intro h
    refine ⟨fun e he => ?_, List.pairwise_iff_getElem.2 ?_⟩
    · obtain ⟨j, hj, rfl⟩ := List.getElem_of_mem he
      exact (h j hj (Nat.zero_le _)).1
    · intro i j hi hj hij
      obtain ⟨d, hd⟩ : ∃ d, j = i + 1 + d := ⟨j - i - 1, by omega⟩
      subst hd
      induction d with
      | zero => exact (h (i + 1) hj (Nat.zero_le _)).2 (by omega)
      | succ d ih => exact ltE_trans (ih (by omega) (by omega)) ((h (i + 1 + (d + 1)) hj (Nat.zero_le _)).2 (by omega))
theorem mayFrom_end (l : List Ed) (i : Nat) (h : l.length ≤ i) : MayFrom l i := fun j hj hi => by omega
theorem mayFrom_cons (l : List Ed) (i : Nat) (hi : i < l.length) : MayFrom l i ↔ (okE l[i] ∧ (0 < i → ltE (l[i - 1]'(by omega)) l[i])) ∧ MayFrom l (i + 1) := by
  constructor
  · intro h
    exact ⟨h i hi (Nat.le_refl _), fun j hj hij => h j hj (by omega)⟩
  · rintro ⟨h, h2⟩ j hj hij
    rcases Nat.eq_or_lt_of_le hij with rfl | hij
    · exact h
    · exact h2 j hj hij
noncomputable instance (l : List Ed) (i : Nat) : Decidable (MayFrom l i) := Classical.propDecidable _
theorem less_eq (a b : Ed) : graftwoodref11_Less.f a.f0 a.f1 a.f2 b.f0 b.f1 b.f2 = some (decide (ltE a b)) := by
  unfold graftwoodref11_Less.f
  by_cases h : a.f0 < b.f0
  · rw [if_pos h, decide_eq_true (show ltE a b from .inl h)]
  · rw [if_neg h]
    by_cases h2 : a.f0 = b.f0
    · rw [if_pos h2, show decide (a.f1 < b.f1) = decide (ltE a b) from decide_eq_decide.2 ⟨fun h3 => .inr ⟨h2, h3⟩, fun h3 => h3.elim (fun h4 => absurd h4 h) And.right⟩]
    · rw [if_neg h2, decide_eq_false (show ¬ ltE a b from fun h3 => h3.elim h (fun h4 => h2 h4.1))]
theorem may11_loop (l : List Ed) (hl : l.length ≤ 1000000) (d : Nat) : ∀ i : Nat, i + d = l.length → Ev (fun k => graftwoodref11_May.l0 k l i) (decide (MayFrom l i)) := by
  induction d with
  | zero =>
    intro i hi
    refine ev_step (fun k => by rw [graftwoodref11_May.l0]) ?_
    exact ev_neg (by omega) (ev_now (by rw [decide_eq_true (mayFrom_end l i (by omega))]))
  | succ d ih =>
    intro i hi
    have hil : i < l.length := by omega
    refine ev_step (fun k => by rw [graftwoodref11_May.l0]) ?_
    rw [rdE_at l i hil, w_succ i (by omega)]
    have hc := mayFrom_cons l i hil
    have bad : ¬ (okE l[i] ∧ (0 < i → ltE (l[i - 1]'(by omega)) l[i])) → false = decide (MayFrom l i) := fun h => by
      rw [decide_eq_false (fun h2 => h (hc.1 h2).1)]
    have good : (okE l[i] ∧ (0 < i → ltE (l[i - 1]'(by omega)) l[i])) → decide (MayFrom l (i + 1)) = decide (MayFrom l i) := fun h => by
      rw [decide_eq_decide, hc]
      exact ⟨fun h2 => ⟨h, h2⟩, And.right⟩
    refine ev_pos (by omega) (ev_pos (by omega) ?_)
    refine ev_ite (fun h => ev_now (bad (fun hk => by have := hk.1.1; omega))) (fun h1 => ?_)
    refine ev_ite (fun h => ev_now (bad (fun hk => by have := hk.1.2.1; omega))) (fun h2 => ?_)
    refine ev_ite (fun h => ev_now (bad (fun hk => by have := hk.1.2.2.1; omega))) (fun h3 => ?_)
    refine ev_ite (fun h => ev_now (bad (fun hk => by have := hk.1.2.2.2; omega))) (fun h4 => ?_)
    have hok : okE l[i] := ⟨by omega, by omega, by omega, by omega⟩
    refine ev_ite (fun h => ?_) (fun h => ?_)
    · have e1 : wrap64 ((i : Int) - 1) = ((i - 1 : Nat) : Int) := by rw [w_id (by omega) (by omega)]; omega
      rw [e1, rdE_at l (i - 1) (by omega), less_eq]
      refine ev_pos (by omega) (ev_pos (by omega) (ev_some ?_))
      by_cases hlt : ltE (l[i - 1]'(by omega)) l[i]
      · rw [decide_eq_true hlt, ← good ⟨hok, fun _ => hlt⟩]
        exact ev_pos rfl (ih (i + 1) (by omega))
      · rw [decide_eq_false hlt]
        exact ev_neg (by decide) (ev_now (bad (fun hk => hlt (hk.2 (by omega)))))
    · rw [← good ⟨hok, fun h0 => absurd h0 (by omega)⟩]
      exact ih (i + 1) (by omega)
theorem may11_ev (l : List Ed) (hl : l.length ≤ 1000000) : Ev (fun k => graftwoodref11_May.f k l) (decide (MayE l)) := by
  unfold graftwoodref11_May.f
  have h := may11_loop l hl l.length 0 (by omega)
  rw [show decide (MayFrom l 0) = decide (MayE l) by rw [decide_eq_decide]; exact (mayFrom_iff l).symm] at h
  exact h
end Go.Proofs.Ytpiamehededilaa.Q

/-
  What edges.Check, find, Add, Drop, Many and the document's answers for them come to.
-/
namespace Go.Proofs.Ytpiamehededilaa.Q
open Go.RowKit Go.Proofs.Ytpiamehededilaa.P Go.Proofs.YtpiamehededilaaB Go.Proofs.YtpiamehededilaaW.PrintWords Go.Proofs.YtpiamehededilaaW.PrintLast Go.Proofs.YtpiamehededilaaW.PrintMore
set_option linter.unusedSimpArgs false
set_option linter.unusedVariables false
theorem order_ev (a0 a1 a2 b0 b1 b2 : Int) : Ev (fun k => edges_order.f k a0 a1 a2 b0 b1 b2) (ordE a0 a1 b0 b1) := Ev.of (edges_order.mono _ _ _ _ _ _) (ord_eq a0 a1 a2 b0 b1 b2)
theorem ordE_lt (x y : Ed) : ordE x.f0 x.f1 y.f0 y.f1 < 0 ↔ ltE x y := by
  unfold ordE ltE
  repeat' split
  all_goals omega
theorem check_loop (l : List Ed) (hl : l.length ≤ 1000000) (d : Nat) : ∀ i : Nat, i + d = l.length → Ev (fun k => edges_Check.l0 k l l (l.length : Int) i) (if MayFrom l i then 0 else 1) := by
  induction d with
  | zero =>
    intro i hi
    refine ev_step (fun k => by rw [edges_Check.l0]) ?_
    exact ev_neg (by omega) (ev_now (by rw [if_pos (mayFrom_end l i (by omega))]))
  | succ d ih =>
    intro i hi
    have hil : i < l.length := by omega
    refine ev_step (fun k => by rw [edges_Check.l0]) ?_
    rw [rdE_at l i hil, w_succ i (by omega)]
    have hc := mayFrom_cons l i hil
    have bad : ¬ (okE l[i] ∧ (0 < i → ltE (l[i - 1]'(by omega)) l[i])) → (1 : Int) = if MayFrom l i then 0 else 1 := fun h => by
      rw [if_neg (fun h2 => h (hc.1 h2).1)]
    have good : (okE l[i] ∧ (0 < i → ltE (l[i - 1]'(by omega)) l[i])) → (if MayFrom l (i + 1) then (0 : Int) else 1) = if MayFrom l i then 0 else 1 := fun h => by
      by_cases h2 : MayFrom l (i + 1)
      · rw [if_pos h2, if_pos (hc.2 ⟨h, h2⟩)]
      · rw [if_neg h2, if_neg (fun h3 => h2 (hc.1 h3).2)]
    refine ev_pos (by omega) (ev_pos (by omega) (ev_pos (by omega) ?_))
    refine ev_ite (fun h => ev_now (bad (fun hk => by have := hk.1.1; omega))) (fun h1 => ?_)
    refine ev_ite (fun h => ev_now (bad (fun hk => by have := hk.1.2.1; omega))) (fun h2 => ?_)
    refine ev_ite (fun h => ev_now (bad (fun hk => by have := hk.1.2.2.1; omega))) (fun h3 => ?_)
    refine ev_ite (fun h => ev_now (bad (fun hk => by have := hk.1.2.2.2; omega))) (fun h4 => ?_)
    have hok : okE l[i] := ⟨by omega, by omega, by omega, by omega⟩
    refine ev_ite (fun h => ?_) (fun h => ?_)
    · have e1 : wrap64 ((i : Int) - 1) = ((i - 1 : Nat) : Int) := by rw [w_id (by omega) (by omega)]; omega
      rw [e1, rdE_at l (i - 1) (by omega)]
      refine ev_pos (by omega) (ev_pos (by omega) (ev_bind (order_ev _ _ _ _ _ _) ?_))
      have hlt := ordE_lt (l[i - 1]'(by omega)) l[i]
      refine ev_ite (fun h5 => ev_now (bad (fun hk => by have := hlt.2 (hk.2 (by omega)); omega))) (fun h5 => ?_)
      rw [← good ⟨hok, fun _ => hlt.1 (by omega)⟩]
      exact ih (i + 1) (by omega)
    · rw [← good ⟨hok, fun h0 => absurd h0 (by omega)⟩]
      exact ih (i + 1) (by omega)
theorem check_ev (l : List Ed) (hl : l.length ≤ 1000000) : Ev (fun k => edges_Check.f k l) (if MayE l then 0 else 1) := by
  unfold edges_Check.f
  have h := check_loop l hl l.length 0 (by omega)
  rw [show (if MayFrom l 0 then (0 : Int) else 1) = if MayE l then 0 else 1 by by_cases hm : MayE l <;> simp [hm, (mayFrom_iff l).symm]] at h
  exact h

def ltA (A : List Ed) (a b : Int) : Prop := ∀ e ∈ A, ltE e ⟨a, b, 0⟩
def gtA (G : List Ed) (a b : Int) : Prop := ∀ e ∈ G, ltE ⟨a, b, 0⟩ e
def sameP (a b : Int) (e : Ed) : Bool := decide (e.f0 = a) && decide (e.f1 = b)
def manyE (l : List Ed) (a b : Int) : Int := ((l.filter (sameP a b)).map (·.f2)).foldr (· + ·) 0
def withE (l : List Ed) (x : Ed) : List Ed := (l.filter (fun e => decide (ltE e x)) ++ (if x.f2 > 0 then [x] else [])) ++ l.filter (fun e => decide (ltE x e))
end Go.Proofs.Ytpiamehededilaa.Q

/-
  What edges.Add, Drop, Many and reach's functions come to.
-/
namespace Go.Proofs.Ytpiamehededilaa.Q
open Go.RowKit Go.Proofs.Ytpiamehededilaa.P Go.Proofs.YtpiamehededilaaB Go.Proofs.YtpiamehededilaaW.PrintWords Go.Proofs.YtpiamehededilaaW.PrintLast Go.Proofs.YtpiamehededilaaW.PrintMore
set_option linter.unusedSimpArgs false
set_option linter.unusedVariables false
/-! ### edges -/
def okP (a b : Int) : Prop := -1 ≤ a ∧ 0 ≤ b
instance (a b : Int) : Decidable (okP a b) := inferInstanceAs (Decidable (_ ∧ _))
/-! ### reach -/
/-- Few, and within an int's range. -/
def smE (l : List Ed) : Prop := l.length ≤ 1000 ∧ ∀ e ∈ l, (Lit.int .i64 e.f0).wf = true ∧ (Lit.int .i64 e.f1).wf = true
def smI (l : List Int) : Prop := l.length ≤ 1000 ∧ ∀ x ∈ l, (Lit.int .i64 x).wf = true
theorem bndE_of {l : List Ed} (h : smE l) : bndE l = true := by
  unfold bndE
  rw [Bool.and_eq_true, List.all_eq_true, decide_eq_true_iff]
  exact ⟨by have := h.1; omega, fun e he => by rw [Bool.and_eq_true]; exact h.2 e he⟩
theorem Of_ev (l : List Ed) (h : smE l) : Ev (fun k => reach_Of.f k l) (if MayE l then (l, liveF l, 0) else ([], [], 1)) := by
  unfold reach_Of.f
  refine ev_bind (check_ev l (by have := h.1; omega)) ?_
  by_cases hm : MayE l
  · rw [if_pos hm, if_pos hm]
    exact ev_pos rfl (ev_pos (bndE_of h) (ev_now rfl))
  · rw [if_neg hm, if_neg hm]
    exact ev_neg (by decide) (ev_now rfl)
/-- A graph that may be. -/
def MayG (l : List Ed) (lv : List Int) : Prop := MayE l ∧ lv = liveF l
instance (l : List Ed) (lv : List Int) : Decidable (MayG l lv) := inferInstanceAs (Decidable (_ ∧ _))
theorem Check_ev (l : List Ed) (lv : List Int) (h : smE l) : Ev (fun k => reach_Check.f k l lv) (if MayG l lv then 0 else 1) := by
  unfold reach_Check.f
  refine ev_bind (Of_ev l h) ?_
  by_cases hm : MayE l
  · rw [if_pos hm]
    refine ev_pos rfl (ev_bind (equal_ev _ _ (by have := liveF_len l; have := h.1; simp only; omega)) (ev_now ?_))
    simp only [decide_eq_true_eq]
    by_cases he : liveF l = lv
    · rw [if_pos he, if_pos ⟨hm, he.symm⟩]
    · rw [if_neg he, if_neg (fun h => he h.2.symm)]
  · rw [if_neg hm, if_neg (fun h => hm h.1)]
    exact ev_neg (by decide) (ev_now rfl)
/-- What Link answers. -/
def LinkS (l : List Ed) (lv : List Int) (a b : Int) : List Ed × List Int × List Int × Int :=
  if ¬ (MayG l lv ∧ okP a b) then (l, lv, [], 1) else if manyE l a b = 1099511627776 then (l, lv, [], 4) else
    (withE l ⟨a, b, manyE l a b + 1⟩, liveF (withE l ⟨a, b, manyE l a b + 1⟩), (liveF (withE l ⟨a, b, manyE l a b + 1⟩)).filter (fun x => decide (x ∉ lv)), 0)
def UnlinkS (l : List Ed) (lv : List Int) (a b : Int) : List Ed × List Int × List Int × Int :=
  if ¬ (MayG l lv ∧ okP a b) then (l, lv, [], 1) else if manyE l a b = 0 then (l, lv, [], 2) else
    (withE l ⟨a, b, manyE l a b - 1⟩, liveF (withE l ⟨a, b, manyE l a b - 1⟩), lv.filter (fun x => decide (x ∉ liveF (withE l ⟨a, b, manyE l a b - 1⟩))), 0)
end Go.Proofs.Ytpiamehededilaa.Q

/-
  What the document's answers of layer 15 come to: Live, May; the chapter's examples.
-/
namespace Go.Proofs.Ytpiamehededilaa.Q
open Go.RowKit Go.Proofs.Ytpiamehededilaa.P Go.Proofs.YtpiamehededilaaB Go.Proofs.YtpiamehededilaaW.PrintWords Go.Proofs.YtpiamehededilaaW.PrintLast Go.Proofs.YtpiamehededilaaW.PrintMore
set_option linter.unusedSimpArgs false
set_option linter.unusedVariables false
theorem live_pass (l : List Ed) (hl : l.length ≤ 1000) (r : List Int) (d : Nat) : ∀ (i : Nat) (S : List Int) (m : Bool), i + d = l.length → S.length ≤ 100000 + i → Ev (fun k => graftwoodref15_Live.l0 k l (spPass [] [-1] (l.drop i) S) (m || decide (S.length < (spPass [] [-1] (l.drop i) S).length))) r → Ev (fun k => graftwoodref15_Live.l1 k l S m i) r := by
  induction d with
  | zero =>
    intro i S m hi hS h
    rw [drop_nil l i (by omega)] at h
    refine ev_step (fun k => by rw [graftwoodref15_Live.l1]) ?_
    refine ev_neg (by omega) ?_
    have e : (m || decide (S.length < (spPass [] [-1] ([] : List Ed) S).length)) = m := by unfold spPass; simp
    rw [e] at h
    exact h
  | succ d ih =>
    intro i S m hi hS h
    have hil : i < l.length := by omega
    rw [List.drop_eq_getElem_cons hil] at h
    have hc : spPass [] [-1] (l[i] :: l.drop (i + 1)) S = spPass [] [-1] (l.drop (i + 1)) (spStep [] [-1] S l[i]) := rfl
    rw [hc] at h
    refine ev_step (fun k => by rw [graftwoodref15_Live.l1]) ?_
    rw [rdE_at l i hil, w_succ i (by omega)]
    refine ev_pos (by omega) (ev_pos (by omega) ?_)
    have same : spStep [] [-1] S l[i] = S → Ev (fun k => graftwoodref15_Live.l1 k l S m ((i + 1 : Nat) : Int)) r := fun e => by
      rw [e] at h
      exact ih (i + 1) S m (by omega) (by omega) h
    have more : spStep [] [-1] S l[i] = S ++ [l[i].f1] → Ev (fun k => graftwoodref15_Live.l1 k l (S ++ [l[i].f1]) true ((i + 1 : Nat) : Int)) r := fun e => by
      rw [e] at h
      have h1 := (spPass_len [] [-1] (l.drop (i + 1)) (S ++ [l[i].f1])).1
      rw [List.length_append, List.length_singleton] at h1
      rw [decide_eq_true (by omega), Bool.or_true] at h
      exact ih (i + 1) (S ++ [l[i].f1]) true (by omega) (by simp; omega) (by rw [Bool.true_or]; exact h)
    have st : ∀ c : Bool, (c = true ↔ l[i].f1 ∈ S) → (l[i].f0 = -1 ∨ l[i].f0 ∈ S) → Ev (fun k => if c = true then graftwoodref15_Live.l1 k l S m ((i + 1 : Nat) : Int) else (if S.length < 17592186044416 then graftwoodref15_Live.l1 k l (S ++ [l[i].f1]) true ((i + 1 : Nat) : Int) else none)) r := fun c hc h0 => by
      refine ev_ite (fun h1 => same ?_) (fun h1 => ev_pos (by omega) (more ?_))
      · unfold spStep
        rw [if_neg (fun h2 => h2.2.2 (hc.1 h1))]
      · unfold spStep
        rw [if_pos ⟨h0.imp (fun e => by rw [e]; exact List.mem_singleton.2 rfl) id, by simp, fun h2 => h1 (hc.2 h2)⟩]
    by_cases h0 : l[i].f0 = -1
    · exact ev_pos h0 (ev_bind (has_ev S _ (by omega)) (st _ decide_eq_true_iff (.inl h0)))
    · refine ev_neg h0 (ev_bind (has_ev S _ (by omega)) ?_)
      by_cases h1 : l[i].f0 ∈ S
      · rw [decide_eq_true h1]
        exact ev_pos rfl (ev_bind (has_ev S _ (by omega)) (st _ decide_eq_true_iff (.inr h1)))
      · rw [decide_eq_false h1]
        refine ev_neg (by decide) (same ?_)
        unfold spStep
        rw [if_neg (fun h2 => h2.1.elim (fun e => h0 (List.mem_singleton.1 e)) h1)]
theorem live_fix {l : List Ed} {S : List Int} (hI : SpInv l [] [-1] S) (hf : ∀ e ∈ l, spStep [] [-1] S e = S) (x : Int) : x ∈ S ↔ R l x := by
  constructor
  · intro hx
    exact (Rch_congr (fun y => by simp) (fun y => Iff.rfl) x).1 (hI.2.2 x hx).2
  · intro hx
    refine R.ind (S := fun x => x ∈ S) (fun a y ha hE => ?_) hx
    obtain ⟨e, he, rfl, rfl⟩ := hE
    refine Classical.byContradiction fun hn => ?_
    have h1 := hf e he
    unfold spStep at h1
    rw [if_pos ⟨ha.imp (fun e => by rw [e]; exact List.mem_singleton.2 rfl) And.right, by simp, hn⟩] at h1
    have := congrArg List.length h1
    simp at this
theorem live_rounds (l : List Ed) (hl : l.length ≤ 1000) (d : Nat) : ∀ S : List Int, SpInv l [] [-1] S → l.length < S.length + d → Ev (fun k => graftwoodref15_Live.l0 k l S true) (liveF l) := by
  induction d with
  | zero =>
    intro S hI hd
    have := nodup_le hI.1 hI.2.1
    rw [List.length_map] at this
    omega
  | succ d ih =>
    intro S hI hd
    have hlen := nodup_le hI.1 hI.2.1
    rw [List.length_map] at hlen
    refine ev_step (fun k => by rw [graftwoodref15_Live.l0]) ?_
    refine ev_pos rfl (live_pass l hl _ l.length 0 S false (by omega) (by omega) ?_)
    rw [List.drop_zero, Bool.false_or]
    have hp := spPass_len [] [-1] l S
    have hI' : SpInv l [] [-1] (spPass [] [-1] l S) := spPass_inv (fun e he => he) S hI
    by_cases hlt : S.length < (spPass [] [-1] l S).length
    · rw [decide_eq_true hlt]
      exact ih _ hI' (by omega)
    · rw [decide_eq_false hlt]
      obtain ⟨h1, h2⟩ := hp.2 (by omega)
      refine ev_step (fun k => by rw [graftwoodref15_Live.l0]) ?_
      refine ev_neg (by decide) ?_
      rw [h1]
      have e : sortI S = liveF l := liveF_eq (sortI_sorted hI.1) (fun x => mem_sortI.trans (live_fix hI h2 x))
      unfold graftwoodref15_Sorted.f
      rw [if_pos (by omega), e]
      exact ev_some (ev_now rfl)
theorem live_ev (l : List Ed) (hl : l.length ≤ 1000) : Ev (fun k => graftwoodref15_Live.f k l) (liveF l) := by
  unfold graftwoodref15_Live.f
  exact live_rounds l hl (l.length + 1) [] ⟨List.nodup_nil, (fun x h => by cases h), (fun x h => by cases h)⟩ (by simp)
theorem may15_ev (l : List Ed) (lv : List Int) (hl : l.length ≤ 1000) (hv : lv.length ≤ 1000) : Ev (fun k => graftwoodref15_May.f k l lv) (decide (MayG l lv)) := by
  unfold graftwoodref15_May.f
  refine ev_bind (may11_ev l (by omega)) ?_
  by_cases h : MayE l
  · rw [decide_eq_true h, show decide (MayG l lv) = decide (lv = liveF l) from decide_eq_decide.2 ⟨And.right, fun h2 => ⟨h, h2⟩⟩]
    exact ev_pos rfl (ev_bind (live_ev l hl) (ev_last (ints_ev lv _ (by omega))))
  · rw [decide_eq_false h, decide_eq_false (fun h2 : MayG l lv => h h2.1)]
    exact ev_neg (by decide) (ev_now rfl)
theorem awake_ev : Ev (fun k => graftwoodlaw15_awake.f k) true := Ev.of graftwoodlaw15_awake.mono (k := 12) (by decide +kernel)
/-! ### Few -/
def few11 (l : List Ed) : List Ed := l.take 40
def few15 (l : List Int) : List Int := l.take 60
theorem few11_eq (l : List Ed) : graftwoodlaw11_Few.f l = some (few11 l) := by
  unfold graftwoodlaw11_Few.f few11
  by_cases h : (l.length : Int) > 40
  · rw [if_pos h, if_pos (by omega)]
  · rw [if_neg h, List.take_of_length_le (by omega)]
theorem few15_eq (l : List Ed) (lv : List Int) : graftwoodlaw15_Few.f l lv = some (few11 l, few15 lv) := by
  unfold graftwoodlaw15_Few.f
  rw [few11_eq]
  show (if _ then _ else _) = _
  unfold few15
  by_cases h : (lv.length : Int) > 60
  · rw [if_pos h, if_pos (by omega)]
  · rw [if_neg h, List.take_of_length_le (by omega)]
theorem few11_len (l : List Ed) : (few11 l).length ≤ 40 := by unfold few11; rw [List.length_take]; omega
theorem few15_len (l : List Int) : (few15 l).length ≤ 60 := by unfold few15; rw [List.length_take]; omega
theorem few11_wf {l : List Ed} (h : ∀ y ∈ l, (Lit.int .i64 y.f0).wf = true ∧ (Lit.int .i64 y.f1).wf = true ∧ (Lit.int .i64 y.f2).wf = true) : ∀ e ∈ few11 l, (Lit.int .i64 e.f0).wf = true ∧ (Lit.int .i64 e.f1).wf = true := fun e he =>
  ⟨(h e (List.mem_of_mem_take he)).1, (h e (List.mem_of_mem_take he)).2.1⟩
theorem few15_wf {l : List Int} (h : ∀ y ∈ l, (Lit.int .i64 y).wf = true) : smI (few15 l) := ⟨by have := few15_len l; omega, fun x hx => h x (List.mem_of_mem_take hx)⟩
end Go.Proofs.Ytpiamehededilaa.Q

/-
  What reach.Same, and the document's Next and Back, come to.
-/
namespace Go.Proofs.Ytpiamehededilaa.Q
open Go.RowKit Go.Proofs.Ytpiamehededilaa.P Go.Proofs.YtpiamehededilaaB Go.Proofs.YtpiamehededilaaW.PrintWords Go.Proofs.YtpiamehededilaaW.PrintLast Go.Proofs.YtpiamehededilaaW.PrintMore
set_option linter.unusedSimpArgs false
set_option linter.unusedVariables false
theorem eqE_loop (a b : List Ed) (hab : a.length = b.length) (hl : a.length ≤ 1000000) (d : Nat) : ∀ i : Nat, i + d = a.length → Ev (fun k => api_Edge_49.l0 k a b (a.length : Int) i) (decide (a.drop i = b.drop i)) := by
  induction d with
  | zero =>
    intro i hi
    refine ev_step (fun k => by rw [api_Edge_49.l0]) ?_
    exact ev_neg (by omega) (ev_now (by rw [drop_nil a i (by omega), drop_nil b i (by omega)]; rfl))
  | succ d ih =>
    intro i hi
    refine ev_step (fun k => by rw [api_Edge_49.l0]) ?_
    rw [rdE_at a i (by omega), rdE_at b i (by omega), w_succ i (by omega), List.drop_eq_getElem_cons (by omega), List.drop_eq_getElem_cons (show i < b.length by omega)]
    refine ev_pos (by omega) (ev_pos (by omega) (ev_pos (by omega) (ev_pos (by omega) ?_)))
    by_cases h : a[i] = b[i]
    · rw [dec_cons _ _ _ _ h]
      exact ev_neg (by rw [h]; simp) (ih (i + 1) (by omega))
    · refine ev_pos ?_ (ev_now (dec_cons_ne _ _ _ _ h).symm)
      simp only [Bool.or_eq_true, Bool.not_eq_true', beq_eq_false_iff_ne]
      refine Classical.byContradiction fun hn => h ?_
      simp only [not_or, Decidable.not_not, ne_eq] at hn
      exact ed_ext hn.1 hn.2.1 hn.2.2
theorem eqE_ev (a b : List Ed) (hl : a.length ≤ 1000000) : Ev (fun k => api_Edge_49.f k a b) (decide (a = b)) := by
  unfold api_Edge_49.f
  refine ev_ite (fun h => eqE_loop a b (by omega) hl a.length 0 (by omega)) (fun h => ev_now ?_)
  rw [eq_comm, decide_eq_false_iff_not]
  intro e
  exact h (by rw [e])
theorem Same_ev (a c : List Ed) (b d : List Int) (hl : a.length ≤ 1000000) (hb : b.length ≤ 1000000) : Ev (fun k => reach_Same.f k a b c d) (decide (a = c ∧ b = d)) := by
  unfold reach_Same.f
  refine ev_bind (eqE_ev a c hl) ?_
  by_cases h : a = c
  · rw [decide_eq_true h, show decide (a = c ∧ b = d) = decide (b = d) by simp [h]]
    exact ev_pos rfl (ev_last (equal_ev b d hb))
  · rw [decide_eq_false h]
    exact ev_neg (by decide) (ev_now (by simp [h]))
end Go.Proofs.Ytpiamehededilaa.Q

/- The pure statement of ReachOf. MINE -/
namespace Go.Proofs.Ytpiamehededilaa.Pure
open Go.RowKit Go.Proofs.Ytpiamehededilaa.P Go.Proofs.Ytpiamehededilaa.Q Go.Proofs.YtpiamehededilaaB Go.Proofs.YtpiamehededilaaW.PrintWords Go.Proofs.YtpiamehededilaaW.PrintLast Go.Proofs.YtpiamehededilaaW.PrintMore
theorem ReachOf_end (l : List Ed) (hl : l.length ≤ 40) (hw : ∀ e ∈ l, (Lit.int .i64 e.f0).wf = true ∧ (Lit.int .i64 e.f1).wf = true) : Ev (fun k => graftwoodlaw15_ReachOf.j0 k l (if MayE l then (l, liveF l, (0 : Int)) else ([], [], 1)).2.2 false (if MayE l then (l, liveF l, (0 : Int)) else ([], [], 1)).1 (if MayE l then (l, liveF l, (0 : Int)) else ([], [], 1)).2.1) true := by
  refine ev_step (fun k => by rw [graftwoodlaw15_ReachOf.j0]) ?_
  refine ev_neg (by decide) (ev_bind (may11_ev l (by omega)) ?_)
  have hlf := liveF_len l
  by_cases hm : MayE l
  · rw [decide_eq_true hm, if_pos hm]
    refine ev_pos rfl (ev_bind (live_ev l (by omega)) (ev_bind (same15_ev _ _ _ _ (by simp only; omega) (by simp only; omega)) ?_))
    rw [decide_eq_true ⟨rfl, rfl⟩]
    refine ev_pos rfl (ev_pos rfl (ev_bind (Check_ev l (liveF l) ⟨by omega, hw⟩) ?_))
    rw [if_pos (show MayG l (liveF l) from ⟨hm, rfl⟩)]
    exact ev_pos rfl (ev_last awake_ev)
  · rw [decide_eq_false hm, if_neg hm]
    refine ev_neg (by decide) (ev_bind (same15_ev _ _ _ _ (by simp) (by simp)) ?_)
    rw [decide_eq_true ⟨rfl, rfl⟩]
    exact ev_pos rfl (ev_pos rfl (ev_last awake_ev))
theorem ReachOf : graftwoodlaw15_ReachOf.Goal := by
  intro x0 x1 h0 h1
  refine ev_rounds ?_
  have hlw := few11_wf h0.2
  have hll := few11_len x0
  obtain ⟨hl1, hv1⟩ := h1
  have hgw := few11_wf hl1.2
  have hvw := few15_wf hv1.2
  have hgl := few11_len x1.f0
  have hvl := few15_len x1.f1
  unfold graftwoodlaw15_ReachOf.f
  rw [few15_eq, few11_eq]
  generalize few11 x0 = l at *
  generalize few11 x1.f0 = g at *
  generalize few15 x1.f1 = gv at *
  have hlf := liveF_len l
  refine ev_some (ev_some (ev_bind (Of_ev l ⟨by omega, hlw⟩) (ev_bind (Check_ev g gv ⟨by omega, hgw⟩) (ev_bind (may15_ev g gv (by omega) (by omega)) ?_))))
  refine ev_neg ?_ ?_
  · by_cases hm : MayG g gv <;> simp [hm]
  · have hx : (if MayE l then (l, liveF l, (0 : Int)) else ([], [], 1)).1.length ≤ 1000000 ∧ (if MayE l then (l, liveF l, (0 : Int)) else ([], [], 1)).2.1.length ≤ 1000000 := by
      split
      · exact ⟨by simp only; omega, by simp only; omega⟩
      · exact ⟨by simp, by simp⟩
    refine ev_bind (Same_ev _ _ _ _ hx.1 hx.2) (ev_bind (same15_ev _ _ _ _ hx.1 hx.2) ?_)
    rw [bne_self_eq_false]
    exact ReachOf_end l hll hlw
end Go.Proofs.Ytpiamehededilaa.Pure
