import Derived.Test.YtpiamehededilaaWWords
import Derived.Test.YtpiamehededilaaWMore
import Derived.Lib.Strings
import Derived.Test.YtpiamehededilaaP9
import Derived.Test.YtpiamehededilaaP11
import Derived.Test.YtpiamehededilaaP12
import Derived.Test.YtpiamehededilaaP14
import Derived.Test.YtpiamehededilaaP6
import Derived.Test.YtpiamehededilaaP8
import Derived.Test.YtpiamehededilaaP2
import Derived.Test.YtpiamehededilaaP10
import Derived.Test.YtpiamehededilaaP13
import Derived.Test.YtpiamehededilaaP18
import Derived.Test.YtpiamehededilaaP19
import Derived.Test.YtpiamehededilaaGReachEnds
/-
  Plain lemmas: 'eventually' (Ev) over the number of rounds, lists of octets. No program in sight.
-/
namespace Go.Proofs.YtpiamehededilaaB
open Go.RowKit Go.Proofs.YtpiamehededilaaW.PrintWords Go.Proofs.YtpiamehededilaaW.PrintLast Go.Proofs.YtpiamehededilaaW.PrintMore

theorem ev_rounds {α : Type} {g : Nat → Option α} {r : α} (h : Ev g r) : ∃ k, g k = some r := by
  obtain ⟨K, hK⟩ := h
  exact ⟨K, hK K (Nat.le_refl _)⟩
theorem ev_bind {α β : Type} {g : Nat → Option α} {f : Nat → α → Option β} {a : α} {r : β} (h : Ev g a) (k : Ev (fun n => f n a) r) : Ev (fun n => (g n).bind (f n)) r := Ev.bind h k
theorem ev_some {α β : Type} {f : Nat → α → Option β} {a : α} {r : β} (k : Ev (fun n => f n a) r) : Ev (fun n => (some a).bind (f n)) r := k
theorem ev_pos {α : Type} {c : Prop} [Decidable c] {f g : Nat → Option α} {r : α} (h : c) (k : Ev f r) : Ev (fun n => if c then f n else g n) r := by
  simpa only [if_pos h] using k
theorem ev_neg {α : Type} {c : Prop} [Decidable c] {f g : Nat → Option α} {r : α} (h : ¬ c) (k : Ev g r) : Ev (fun n => if c then f n else g n) r := by
  simpa only [if_neg h] using k
theorem ev_ite {α : Type} {c : Prop} [Decidable c] {f g : Nat → Option α} {r : α} (h : c → Ev f r) (k : ¬ c → Ev g r) : Ev (fun n => if c then f n else g n) r := by
  by_cases hc : c
  · exact ev_pos hc (h hc)
  · exact ev_neg hc (k hc)
theorem ev_now {α : Type} {a r : α} (h : a = r) : Ev (fun _ => some a) r := by subst h; exact ⟨0, fun _ _ => rfl⟩
theorem ev_last {α : Type} {g : Nat → Option α} {r : α} (h : Ev g r) : Ev (fun n => (g n).bind fun t => some t) r := ev_bind h (ev_now rfl)
theorem ev_step {α : Type} {g f : Nat → Option α} {r : α} (h : ∀ k, g (k + 1) = f k) (k : Ev f r) : Ev g r := Ev.step h k

/-! ### numbers -/
theorem w_id {i : Int} (h0 : -9223372036854775808 ≤ i) (h1 : i ≤ 9223372036854775807) : wrap64 i = i := by unfold wrap64; omega
theorem w_succ (i : Nat) (h : i ≤ 4611686018427387904) : wrap64 ((i : Int) + 1) = ((i + 1 : Nat) : Int) := by
  have h1 : wrap64 ((i : Int) + 1) = (i : Int) + 1 := w_id (by omega) (by omega)
  rw [h1]; rfl
theorem drop_nil {α : Type} (l : List α) (i : Nat) (h : l.length ≤ i) : l.drop i = [] := List.drop_eq_nil_of_le h
/-! ### texts -/
/-- A text's octets. -/
def L (s : ByteArray) : List UInt8 := s.data.toList
/-- Two texts held against one another. -/
def cmpL (x y : List UInt8) : Int := if x < y then -1 else if y < x then 1 else 0
end Go.Proofs.YtpiamehededilaaB

/-
  What is reached over edges, from the beginning and step by step. No program in sight.
-/
namespace Go.Proofs.Ytpiamehededilaa.Q
open Go.RowKit Go.Proofs.Ytpiamehededilaa.P Go.Proofs.YtpiamehededilaaB Go.Proofs.YtpiamehededilaaW.PrintWords Go.Proofs.YtpiamehededilaaW.PrintLast Go.Proofs.YtpiamehededilaaW.PrintMore
set_option linter.unusedSimpArgs false
set_option linter.unusedVariables false
abbrev Ed := S36
/-- An edge leads from a to y. -/
def E (l : List Ed) (a y : Int) : Prop := ∃ e, e ∈ l ∧ e.f0 = a ∧ e.f1 = y
/-- What is reached from the root. -/
def R (l : List Ed) (x : Int) : Prop := Rch (NextF l) (fun _ => False) [-1] x
theorem mem_nextF {l : List Ed} {a y : Int} : y ∈ NextF l a ↔ E l a y := mem_NextF
theorem mem_backF {l : List Ed} {a y : Int} : a ∈ BackF l y ↔ E l a y := by
  rw [mem_BackF]
  exact ⟨fun ⟨e, h, h1, h2⟩ => ⟨e, h, h2, h1⟩, fun ⟨e, h, h1, h2⟩ => ⟨e, h, h2, h1⟩⟩
theorem R.step {l : List Ed} {a y : Int} (h : a = -1 ∨ R l a) (hE : E l a y) : R l y :=
  Rch.go (h.imp (fun e => by rw [e]; exact List.mem_singleton.2 rfl) id) (mem_nextF.2 hE) (fun h => h)
theorem R.ind {l : List Ed} {S : Int → Prop} (h : ∀ a y, (a = -1 ∨ (R l a ∧ S a)) → E l a y → S y) {x : Int} (hx : R l x) : S x := by
  have h2 : R l x ∧ S x := hx (fun z => R l z ∧ S z) (fun a y ha hy _ => by
    have ha2 : a = -1 ∨ (R l a ∧ S a) := ha.imp (fun h => List.mem_singleton.1 h) id
    exact ⟨R.step (ha2.imp id And.left) (mem_nextF.1 hy), h a y ha2 (mem_nextF.1 hy)⟩)
  exact h2.2
theorem R.mono {l l' : List Ed} (h : ∀ a y, E l a y → E l' a y) {x : Int} (hx : R l x) : R l' x :=
  R.ind (S := fun x => R l' x) (fun a y ha hE => R.step (ha.imp id And.right) (h a y hE)) hx
theorem R.congr {l l' : List Ed} (h : ∀ a y, E l a y ↔ E l' a y) (x : Int) : R l x ↔ R l' x :=
  ⟨R.mono (fun a y => (h a y).1), R.mono (fun a y => (h a y).2)⟩
theorem R.into {l : List Ed} {x : Int} (h : R l x) : ∃ a, (a = -1 ∨ R l a) ∧ E l a x :=
  R.ind (S := fun x => ∃ a, (a = -1 ∨ R l a) ∧ E l a x) (fun a y ha hE => ⟨a, ha.imp id And.left, hE⟩) h
theorem mem_liveF {l : List Ed} {x : Int} : x ∈ liveF l ↔ R l x := by
  unfold liveF
  rw [mem_sortI, mem_spreadF]
  exact Rch_congr (fun y => by simp) (fun y => Iff.rfl) x
theorem liveF_sorted (l : List Ed) : (liveF l).Pairwise (· < ·) := sortI_sorted (spreadF_nodup _ _ _)
theorem liveF_len (l : List Ed) : (liveF l).length ≤ l.length :=
  Nat.le_trans (nodup_le ((liveF_sorted l).imp (fun h => by omega)) (fun x hx => by unfold liveF at hx; exact mem_sortI.1 hx)) (spreadF_len _ _ _)
/-! ### a pair more -/
section
variable {l l' : List Ed} {a b : Int}
end

/-! ### a pair less -/
section
variable {l l' : List Ed} {a b : Int}
end
end Go.Proofs.Ytpiamehededilaa.Q

/-
  What the printed functions of layers 11 and 15 come to.
-/
namespace Go.Proofs.Ytpiamehededilaa.Q
open Go.RowKit Go.Proofs.Ytpiamehededilaa.P Go.Proofs.YtpiamehededilaaB Go.Proofs.YtpiamehededilaaW.PrintWords Go.Proofs.YtpiamehededilaaW.PrintLast Go.Proofs.YtpiamehededilaaW.PrintMore
set_option linter.unusedSimpArgs false
set_option linter.unusedVariables false
theorem ed_ext {x y : Ed} (h0 : x.f0 = y.f0) (h1 : x.f1 = y.f1) (h2 : x.f2 = y.f2) : x = y := by
  cases x; cases y; cases h0; cases h1; cases h2; rfl
theorem rdE_at (l : List Ed) (i : Nat) (h : i < l.length) : rd_T36 l (i : Int) = l[i] := by
  simp [rd_T36, List.getD_eq_getElem?_getD, h]
theorem rdI_at (l : List Int) (i : Nat) (h : i < l.length) : rd l (i : Int) = l[i] := by
  simp [rd, List.getD_eq_getElem?_getD, h]

/-! ### lists of numbers -/
theorem has_loop (l : List Int) (x : Int) (hl : l.length ≤ 1000000) (d : Nat) : ∀ i : Nat, i + d = l.length → Ev (fun k => graftwoodref11_Has.l0 k l x i) (decide (x ∈ l.drop i)) := by
  induction d with
  | zero =>
    intro i hi
    refine ev_step (fun k => by rw [graftwoodref11_Has.l0]) ?_
    exact ev_neg (by omega) (ev_now (by rw [drop_nil l i (by omega)]; rfl))
  | succ d ih =>
    intro i hi
    refine ev_step (fun k => by rw [graftwoodref11_Has.l0]) ?_
    rw [rdI_at l i (by omega), w_succ i (by omega), List.drop_eq_getElem_cons (by omega)]
    refine ev_pos (by omega) (ev_pos (by omega) (ev_ite (fun h => ev_now (by simp [h])) (fun h => ?_)))
    have := ih (i + 1) (by omega)
    rw [show decide (x ∈ l[i] :: l.drop (i + 1)) = decide (x ∈ l.drop (i + 1)) by rw [decide_eq_decide, List.mem_cons]; exact ⟨fun e => e.resolve_left (fun e => h e.symm), .inr⟩]
    exact this
theorem has_ev (l : List Int) (x : Int) (hl : l.length ≤ 1000000) : Ev (fun k => graftwoodref11_Has.f k l x) (decide (x ∈ l)) := by
  unfold graftwoodref11_Has.f
  exact has_loop l x hl l.length 0 (by omega)
/-! ### edges: equal, in order -/
instance : DecidableEq Ed := fun x y => if h : x.f0 = y.f0 ∧ x.f1 = y.f1 ∧ x.f2 = y.f2 then isTrue (ed_ext h.1 h.2.1 h.2.2) else isFalse (fun e => h (by subst e; exact ⟨rfl, rfl, rfl⟩))
def ltE (x y : Ed) : Prop := x.f0 < y.f0 ∨ (x.f0 = y.f0 ∧ x.f1 < y.f1)
instance (x y : Ed) : Decidable (ltE x y) := inferInstanceAs (Decidable (_ ∨ _))
theorem ltE_trans {x y z : Ed} (h : ltE x y) (k : ltE y z) : ltE x z := by unfold ltE at *; omega
def okE (e : Ed) : Prop := -1 ≤ e.f0 ∧ 0 ≤ e.f1 ∧ 1 ≤ e.f2 ∧ e.f2 ≤ 1099511627776
instance (e : Ed) : Decidable (okE e) := inferInstanceAs (Decidable (_ ∧ _))
/-- Edges that may be. -/
def MayE (l : List Ed) : Prop := (∀ e ∈ l, okE e) ∧ l.Pairwise ltE
instance (l : List Ed) : Decidable (MayE l) := inferInstanceAs (Decidable (_ ∧ _))
/-- From the i-th on, the i-th being held against the one ahead. -/
def MayFrom (l : List Ed) (i : Nat) : Prop := ∀ j, (h : j < l.length) → i ≤ j → okE l[j] ∧ (0 < j → ltE (l[j - 1]'(by omega)) l[j])
theorem mayFrom_iff (l : List Ed) : MayE l ↔ MayFrom l 0 := by
  constructor
  · intro h j hj _
    refine ⟨h.1 _ (List.getElem_mem hj), fun h0 => ?_⟩
    exact List.pairwise_iff_getElem.1 h.2 (j - 1) j (by omega) hj (by omega)
  · intro h
    refine ⟨fun e he => ?_, List.pairwise_iff_getElem.2 ?_⟩
    · obtain ⟨j, hj, rfl⟩ := List.getElem_of_mem he
      exact (h j hj (Nat.zero_le _)).1
    · intro i j hi hj hij
      obtain ⟨d, hd⟩ : ∃ d, j = i + 1 + d := ⟨j - i - 1, by omega⟩
      subst hd
      induction d with
      | zero => exact (h (i + 1) hj (Nat.zero_le _)).2 (by omega)
      | succ d ih => exact ltE_trans (ih (by omega) (by omega)) ((h (i + 1 + (d + 1)) hj (Nat.zero_le _)).2 (by omega))
theorem mayFrom_end (l : List Ed) (i : Nat) (h : l.length ≤ i) : MayFrom l i := fun j hj hi => by omega
theorem mayFrom_cons (l : List Ed) (i : Nat) (hi : i < l.length) : MayFrom l i ↔ (okE l[i] ∧ (0 < i → ltE (l[i - 1]'(by omega)) l[i])) ∧ MayFrom l (i + 1) := by
  constructor
  · intro h
    exact ⟨h i hi (Nat.le_refl _), fun j hj hij => h j hj (by omega)⟩
  · rintro ⟨h, h2⟩ j hj hij
    rcases Nat.eq_or_lt_of_le hij with rfl | hij
    · exact h
    · exact h2 j hj hij
noncomputable instance (l : List Ed) (i : Nat) : Decidable (MayFrom l i) := Classical.propDecidable _
end Go.Proofs.Ytpiamehededilaa.Q

/-
  What edges.Check, find, Add, Drop, Many and the document's answers for them come to.
-/
namespace Go.Proofs.Ytpiamehededilaa.Q
open Go.RowKit Go.Proofs.Ytpiamehededilaa.P Go.Proofs.YtpiamehededilaaB Go.Proofs.YtpiamehededilaaW.PrintWords Go.Proofs.YtpiamehededilaaW.PrintLast Go.Proofs.YtpiamehededilaaW.PrintMore
set_option linter.unusedSimpArgs false
set_option linter.unusedVariables false
theorem order_ev (a0 a1 a2 b0 b1 b2 : Int) : Ev (fun k => edges_order.f k a0 a1 a2 b0 b1 b2) (ordE a0 a1 b0 b1) := Ev.of (edges_order.mono _ _ _ _ _ _) (ord_eq a0 a1 a2 b0 b1 b2)
theorem ordE_lt (x y : Ed) : ordE x.f0 x.f1 y.f0 y.f1 < 0 ↔ ltE x y := by
  unfold ordE ltE
  repeat' split
  all_goals omega
theorem check_loop (l : List Ed) (hl : l.length ≤ 1000000) (d : Nat) : ∀ i : Nat, i + d = l.length → Ev (fun k => edges_Check.l0 k l l (l.length : Int) i) (if MayFrom l i then 0 else 1) := by
  induction d with
  | zero =>
    intro i hi
    refine ev_step (fun k => by rw [edges_Check.l0]) ?_
    exact ev_neg (by omega) (ev_now (by rw [if_pos (mayFrom_end l i (by omega))]))
  | succ d ih =>
    intro i hi
    have hil : i < l.length := by omega
    refine ev_step (fun k => by rw [edges_Check.l0]) ?_
    rw [rdE_at l i hil, w_succ i (by omega)]
    have hc := mayFrom_cons l i hil
    have bad : ¬ (okE l[i] ∧ (0 < i → ltE (l[i - 1]'(by omega)) l[i])) → (1 : Int) = if MayFrom l i then 0 else 1 := fun h => by
      rw [if_neg (fun h2 => h (hc.1 h2).1)]
    have good : (okE l[i] ∧ (0 < i → ltE (l[i - 1]'(by omega)) l[i])) → (if MayFrom l (i + 1) then (0 : Int) else 1) = if MayFrom l i then 0 else 1 := fun h => by
      by_cases h2 : MayFrom l (i + 1)
      · rw [if_pos h2, if_pos (hc.2 ⟨h, h2⟩)]
      · rw [if_neg h2, if_neg (fun h3 => h2 (hc.1 h3).2)]
    refine ev_pos (by omega) (ev_pos (by omega) (ev_pos (by omega) ?_))
    refine ev_ite (fun h => ev_now (bad (fun hk => by have := hk.1.1; omega))) (fun h1 => ?_)
    refine ev_ite (fun h => ev_now (bad (fun hk => by have := hk.1.2.1; omega))) (fun h2 => ?_)
    refine ev_ite (fun h => ev_now (bad (fun hk => by have := hk.1.2.2.1; omega))) (fun h3 => ?_)
    refine ev_ite (fun h => ev_now (bad (fun hk => by have := hk.1.2.2.2; omega))) (fun h4 => ?_)
    have hok : okE l[i] := ⟨by omega, by omega, by omega, by omega⟩
    refine ev_ite (fun h => ?_) (fun h => ?_)
    · have e1 : wrap64 ((i : Int) - 1) = ((i - 1 : Nat) : Int) := by rw [w_id (by omega) (by omega)]; omega
      rw [e1, rdE_at l (i - 1) (by omega)]
      refine ev_pos (by omega) (ev_pos (by omega) (ev_bind (order_ev _ _ _ _ _ _) ?_))
      have hlt := ordE_lt (l[i - 1]'(by omega)) l[i]
      refine ev_ite (fun h5 => ev_now (bad (fun hk => by have := hlt.2 (hk.2 (by omega)); omega))) (fun h5 => ?_)
      rw [← good ⟨hok, fun _ => hlt.1 (by omega)⟩]
      exact ih (i + 1) (by omega)
    · rw [← good ⟨hok, fun h0 => absurd h0 (by omega)⟩]
      exact ih (i + 1) (by omega)
theorem check_ev (l : List Ed) (hl : l.length ≤ 1000000) : Ev (fun k => edges_Check.f k l) (if MayE l then 0 else 1) := by
  unfold edges_Check.f
  have h := check_loop l hl l.length 0 (by omega)
  rw [show (if MayFrom l 0 then (0 : Int) else 1) = if MayE l then 0 else 1 by by_cases hm : MayE l <;> simp [hm, (mayFrom_iff l).symm]] at h
  exact h

def ltA (A : List Ed) (a b : Int) : Prop := ∀ e ∈ A, ltE e ⟨a, b, 0⟩
def gtA (G : List Ed) (a b : Int) : Prop := ∀ e ∈ G, ltE ⟨a, b, 0⟩ e
def sameP (a b : Int) (e : Ed) : Bool := decide (e.f0 = a) && decide (e.f1 = b)
def manyE (l : List Ed) (a b : Int) : Int := ((l.filter (sameP a b)).map (·.f2)).foldr (· + ·) 0
def withE (l : List Ed) (x : Ed) : List Ed := (l.filter (fun e => decide (ltE e x)) ++ (if x.f2 > 0 then [x] else [])) ++ l.filter (fun e => decide (ltE x e))
end Go.Proofs.Ytpiamehededilaa.Q

/-
  What edges.Add, Drop, Many and reach's functions come to.
-/
namespace Go.Proofs.Ytpiamehededilaa.Q
open Go.RowKit Go.Proofs.Ytpiamehededilaa.P Go.Proofs.YtpiamehededilaaB Go.Proofs.YtpiamehededilaaW.PrintWords Go.Proofs.YtpiamehededilaaW.PrintLast Go.Proofs.YtpiamehededilaaW.PrintMore
set_option linter.unusedSimpArgs false
set_option linter.unusedVariables false
/-! ### edges -/
def okP (a b : Int) : Prop := -1 ≤ a ∧ 0 ≤ b
instance (a b : Int) : Decidable (okP a b) := inferInstanceAs (Decidable (_ ∧ _))
/-! ### reach -/
/-- Few, and within an int's range. -/
def smE (l : List Ed) : Prop := l.length ≤ 1000 ∧ ∀ e ∈ l, (Lit.int .i64 e.f0).wf = true ∧ (Lit.int .i64 e.f1).wf = true
def smI (l : List Int) : Prop := l.length ≤ 1000 ∧ ∀ x ∈ l, (Lit.int .i64 x).wf = true
theorem bndE_of {l : List Ed} (h : smE l) : bndE l = true := by
  unfold bndE
  rw [Bool.and_eq_true, List.all_eq_true, decide_eq_true_iff]
  exact ⟨by have := h.1; omega, fun e he => by rw [Bool.and_eq_true]; exact h.2 e he⟩
theorem Of_ev (l : List Ed) (h : smE l) : Ev (fun k => reach_Of.f k l) (if MayE l then (l, liveF l, 0) else ([], [], 1)) := by
  unfold reach_Of.f
  refine ev_bind (check_ev l (by have := h.1; omega)) ?_
  by_cases hm : MayE l
  · rw [if_pos hm, if_pos hm]
    exact ev_pos rfl (ev_pos (bndE_of h) (ev_now rfl))
  · rw [if_neg hm, if_neg hm]
    exact ev_neg (by decide) (ev_now rfl)
/-- A graph that may be. -/
def MayG (l : List Ed) (lv : List Int) : Prop := MayE l ∧ lv = liveF l
instance (l : List Ed) (lv : List Int) : Decidable (MayG l lv) := inferInstanceAs (Decidable (_ ∧ _))
/-- What Link answers. -/
def LinkS (l : List Ed) (lv : List Int) (a b : Int) : List Ed × List Int × List Int × Int :=
  if ¬ (MayG l lv ∧ okP a b) then (l, lv, [], 1) else if manyE l a b = 1099511627776 then (l, lv, [], 4) else
    (withE l ⟨a, b, manyE l a b + 1⟩, liveF (withE l ⟨a, b, manyE l a b + 1⟩), (liveF (withE l ⟨a, b, manyE l a b + 1⟩)).filter (fun x => decide (x ∉ lv)), 0)
def UnlinkS (l : List Ed) (lv : List Int) (a b : Int) : List Ed × List Int × List Int × Int :=
  if ¬ (MayG l lv ∧ okP a b) then (l, lv, [], 1) else if manyE l a b = 0 then (l, lv, [], 2) else
    (withE l ⟨a, b, manyE l a b - 1⟩, liveF (withE l ⟨a, b, manyE l a b - 1⟩), lv.filter (fun x => decide (x ∉ liveF (withE l ⟨a, b, manyE l a b - 1⟩))), 0)
end Go.Proofs.Ytpiamehededilaa.Q

/-
  What the document's answers of layer 15 come to: Live, May; the chapter's examples.
-/
namespace Go.Proofs.Ytpiamehededilaa.Q
open Go.RowKit Go.Proofs.Ytpiamehededilaa.P Go.Proofs.YtpiamehededilaaB Go.Proofs.YtpiamehededilaaW.PrintWords Go.Proofs.YtpiamehededilaaW.PrintLast Go.Proofs.YtpiamehededilaaW.PrintMore
set_option linter.unusedSimpArgs false
set_option linter.unusedVariables false
theorem awake_ev : Ev (fun k => graftwoodlaw15_awake.f k) true := Ev.of graftwoodlaw15_awake.mono (k := 12) (by decide +kernel)
/-! ### Few -/
def few11 (l : List Ed) : List Ed := l.take 40
def few15 (l : List Int) : List Int := l.take 60
theorem few11_eq (l : List Ed) : graftwoodlaw11_Few.f l = some (few11 l) := by
  unfold graftwoodlaw11_Few.f few11
  by_cases h : (l.length : Int) > 40
  · rw [if_pos h, if_pos (by omega)]
  · rw [if_neg h, List.take_of_length_le (by omega)]
theorem few11_len (l : List Ed) : (few11 l).length ≤ 40 := by unfold few11; rw [List.length_take]; omega
theorem few11_wf {l : List Ed} (h : ∀ y ∈ l, (Lit.int .i64 y.f0).wf = true ∧ (Lit.int .i64 y.f1).wf = true ∧ (Lit.int .i64 y.f2).wf = true) : ∀ e ∈ few11 l, (Lit.int .i64 e.f0).wf = true ∧ (Lit.int .i64 e.f1).wf = true := fun e he =>
  ⟨(h e (List.mem_of_mem_take he)).1, (h e (List.mem_of_mem_take he)).2.1⟩
end Go.Proofs.Ytpiamehededilaa.Q

/-
  What the document's Next and Back come to.
-/
namespace Go.Proofs.Ytpiamehededilaa.Q
open Go.RowKit Go.Proofs.Ytpiamehededilaa.P Go.Proofs.YtpiamehededilaaB Go.Proofs.YtpiamehededilaaW.PrintWords Go.Proofs.YtpiamehededilaaW.PrintLast Go.Proofs.YtpiamehededilaaW.PrintMore
set_option linter.unusedSimpArgs false
set_option linter.unusedVariables false
theorem next_loop (l : List Ed) (a : Int) (hl : l.length ≤ 1000000) (d : Nat) : ∀ (i : Nat) (o : List Int), i + d = l.length → o.length ≤ i → Ev (fun k => graftwoodref11_Next.l0 k l a o i) (o ++ NextF (l.drop i) a) := by
  induction d with
  | zero =>
    intro i o hi ho
    refine ev_step (fun k => by rw [graftwoodref11_Next.l0]) ?_
    exact ev_neg (by omega) (ev_now (by rw [drop_nil l i (by omega)]; simp [NextF, selE]))
  | succ d ih =>
    intro i o hi ho
    have hil : i < l.length := by omega
    refine ev_step (fun k => by rw [graftwoodref11_Next.l0]) ?_
    rw [rdE_at l i hil, w_succ i (by omega), List.drop_eq_getElem_cons hil]
    refine ev_pos (by omega) (ev_pos (by omega) (ev_ite (fun h => ev_pos (by omega) ?_) (fun h => ?_)))
    · have := ih (i + 1) (o ++ [l[i].f1]) (by omega) (by simp; omega)
      rw [List.append_assoc] at this
      rw [show NextF (l[i] :: l.drop (i + 1)) a = l[i].f1 :: NextF (l.drop (i + 1)) a by unfold NextF selE; rw [List.filter_cons, if_pos (by simpa using h), List.map_cons]]
      exact this
    · rw [show NextF (l[i] :: l.drop (i + 1)) a = NextF (l.drop (i + 1)) a by unfold NextF selE; rw [List.filter_cons, if_neg (by simpa using h)]]
      exact ih (i + 1) o (by omega) (by omega)
theorem next_ev (l : List Ed) (a : Int) (hl : l.length ≤ 1000000) : Ev (fun k => graftwoodref11_Next.f k l a) (NextF l a) := by
  unfold graftwoodref11_Next.f
  exact next_loop l a hl l.length 0 [] (by omega) (by simp)
theorem next_len (l : List Ed) (a : Int) : (NextF l a).length ≤ l.length := selE_len _ _ l a
theorem back_loop (l : List Ed) (a : Int) (hl : l.length ≤ 1000000) (d : Nat) : ∀ (i : Nat) (o : List Int), i + d = l.length → o.length ≤ i → Ev (fun k => graftwoodref11_Back.l0 k l a o i) (o ++ BackF (l.drop i) a) := by
  induction d with
  | zero =>
    intro i o hi ho
    refine ev_step (fun k => by rw [graftwoodref11_Back.l0]) ?_
    exact ev_neg (by omega) (ev_now (by rw [drop_nil l i (by omega)]; simp [BackF, selE]))
  | succ d ih =>
    intro i o hi ho
    have hil : i < l.length := by omega
    refine ev_step (fun k => by rw [graftwoodref11_Back.l0]) ?_
    rw [rdE_at l i hil, w_succ i (by omega), List.drop_eq_getElem_cons hil]
    refine ev_pos (by omega) (ev_pos (by omega) (ev_ite (fun h => ev_pos (by omega) ?_) (fun h => ?_)))
    · have := ih (i + 1) (o ++ [l[i].f0]) (by omega) (by simp; omega)
      rw [List.append_assoc] at this
      rw [show BackF (l[i] :: l.drop (i + 1)) a = l[i].f0 :: BackF (l.drop (i + 1)) a by unfold BackF selE; rw [List.filter_cons, if_pos (by simpa using h), List.map_cons]]
      exact this
    · rw [show BackF (l[i] :: l.drop (i + 1)) a = BackF (l.drop (i + 1)) a by unfold BackF selE; rw [List.filter_cons, if_neg (by simpa using h)]]
      exact ih (i + 1) o (by omega) (by omega)
theorem back_ev (l : List Ed) (a : Int) (hl : l.length ≤ 1000000) : Ev (fun k => graftwoodref11_Back.f k l a) (BackF l a) := by
  unfold graftwoodref11_Back.f
  exact back_loop l a hl l.length 0 [] (by omega) (by simp)
end Go.Proofs.Ytpiamehededilaa.Q

/- The pure statement of ReachEnds. MINE -/
namespace Go.Proofs.Ytpiamehededilaa.Pure
open Go.RowKit Go.Proofs.Ytpiamehededilaa.P Go.Proofs.Ytpiamehededilaa.Q Go.Proofs.YtpiamehededilaaB Go.Proofs.YtpiamehededilaaW.PrintWords Go.Proofs.YtpiamehededilaaW.PrintLast Go.Proofs.YtpiamehededilaaW.PrintMore
theorem Ends_loop1 (l : List Ed) (hl : l.length ≤ 40) (d : Nat) : ∀ i : Nat, i + d = (NextF l (-1)).length → Ev (fun k => graftwoodlaw15_ReachEnds.l1 k (NextF l (-1)) i l (liveF l)) true := by
  have hlf := liveF_len l
  have hnl := next_len l (-1)
  induction d with
  | zero =>
    intro i hi
    refine ev_step (fun k => by rw [graftwoodlaw15_ReachEnds.l1]) ?_
    refine ev_neg (by omega) (ev_pos ?_ (ev_last awake_ev))
    have h : 0 < (NextF l (-1)).length ↔ 0 < (liveF l).length := by
      rw [List.length_pos_iff_exists_mem, List.length_pos_iff_exists_mem]
      constructor
      · rintro ⟨x, hx⟩
        exact ⟨x, mem_liveF.2 (R.step (.inl rfl) (mem_nextF.1 hx))⟩
      · rintro ⟨x, hx⟩
        exact R.ind (S := fun _ => ∃ x, x ∈ NextF l (-1)) (fun a y ha hE => ha.elim (fun e => ⟨y, mem_nextF.2 (e ▸ hE)⟩) And.right) (mem_liveF.1 hx)
    rw [beq_iff_eq, decide_eq_decide]
    omega
  | succ d ih =>
    intro i hi
    refine ev_step (fun k => by rw [graftwoodlaw15_ReachEnds.l1]) ?_
    rw [rdI_at _ i (by omega), w_succ i (by omega)]
    refine ev_pos (by omega) (ev_pos (by omega) (ev_bind (has_ev _ _ (by omega)) ?_))
    have hm : (NextF l (-1))[i] ∈ NextF l (-1) := List.getElem_mem _
    rw [decide_eq_true (mem_liveF.2 (R.step (.inl rfl) (mem_nextF.1 hm)))]
    exact ev_pos rfl (ih (i + 1) (by omega))
theorem Ends_loop0 (l : List Ed) (hl : l.length ≤ 40) (d : Nat) : ∀ i : Nat, i + d = (liveF l).length → Ev (fun k => graftwoodlaw15_ReachEnds.l0 k l (NextF l (-1)) i l (liveF l)) true := by
  have hlf := liveF_len l
  induction d with
  | zero =>
    intro i hi
    refine ev_step (fun k => by rw [graftwoodlaw15_ReachEnds.l0]) ?_
    exact ev_neg (by omega) (Ends_loop1 l hl _ 0 (Nat.zero_add _))
  | succ d ih =>
    intro i hi
    have hil : i < (liveF l).length := by omega
    refine ev_step (fun k => by rw [graftwoodlaw15_ReachEnds.l0]) ?_
    rw [rdI_at _ i hil, w_succ i (by omega)]
    refine ev_pos (by omega) (ev_pos (by omega) (ev_bind (back_ev l _ (by omega)) (ev_neg ?_ ?_)))
    · obtain ⟨a, _, hE⟩ := R.into (mem_liveF.1 (List.getElem_mem hil))
      have h2 : 0 < (BackF l (liveF l)[i]).length := List.length_pos_iff_exists_mem.2 ⟨a, mem_backF.2 hE⟩
      omega
    · refine ev_ite (fun h => ?_) (fun _ => ih (i + 1) (by omega))
      have e1 : wrap64 ((i : Int) - 1) = ((i - 1 : Nat) : Int) := by rw [w_id (by omega) (by omega)]; omega
      rw [e1, rdI_at _ (i - 1) (by omega)]
      refine ev_pos (by omega) (ev_pos (by omega) (ev_neg ?_ (ih (i + 1) (by omega))))
      have := List.pairwise_iff_getElem.1 (liveF_sorted l) (i - 1) i (by omega) hil (by omega)
      omega
theorem ReachEnds : graftwoodlaw15_ReachEnds.Goal := by
  intro x0 h0
  refine ev_rounds ?_
  have hlw := few11_wf h0.2
  have hll := few11_len x0
  unfold graftwoodlaw15_ReachEnds.f
  rw [few11_eq]
  generalize few11 x0 = l at *
  refine ev_some (ev_bind (Of_ev l ⟨by omega, hlw⟩) ?_)
  by_cases hm : MayE l
  · rw [if_pos hm]
    exact ev_pos rfl (ev_bind (next_ev l (-1) (by omega)) (Ends_loop0 l hll _ 0 (Nat.zero_add _)))
  · rw [if_neg hm]
    exact ev_neg (by decide) (ev_last awake_ev)
end Go.Proofs.Ytpiamehededilaa.Pure
