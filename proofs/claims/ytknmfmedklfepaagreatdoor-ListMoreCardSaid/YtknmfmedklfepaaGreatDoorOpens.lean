/-
  Plain lemmas on reading: cells that read as data of a type are values of a kind (Kd). No program in sight.
-/
import Derived.Test.YtknmfmedklfepaaGreatDoorWWords
import Derived.OpenShut
import Derived.ChangeArms
import Derived.ProofKit
import Derived.DataReads
namespace Go.Proofs.YtknmfmedklfepaaGreatDoorO
open Go.RowKit Go.Proofs.YtknmfmedklfepaaGreatDoorW.PrintWords

/-- Cells that read as data of the type are a value of the kind, of which Q holds. -/
def Opens {α : Type} (P : Program) (t : TypeId) (d : Kd α) (Q : α → Prop) : Prop :=
  ∀ {H : Type} (enc : TypeId × Value → H) (w : World) (fuel : Nat) (cs : List Value) (x : DataW H × List MemPlace),
    DataW.trod enc P w 0 (fun _ => true) true fuel t cs = some x → ∃ a, d.K w a cs ∧ Q a

variable {P : Program}
theorem Opens.mono {α : Type} {t : TypeId} {d : Kd α} {Q Q' : α → Prop} (h : Opens P t d Q) (hq : ∀ a, Q a → Q' a) : Opens P t d Q' :=
  fun enc w fuel cs x hx => by
    obtain ⟨a, hk, ha⟩ := h enc w fuel cs x hx
    exact ⟨a, hk, hq a ha⟩
theorem opens_bool {t : TypeId} (ht : P.underlying t = some .bool) : Opens P t Kd.bool (fun _ => True) := fun _ _ _ _ _ hx => by
  obtain ⟨b, rfl, _⟩ := DataW.trod_bool ht hx
  exact ⟨b, rfl, trivial⟩
theorem opens_int {t : TypeId} {k : IntKind} (ht : P.underlying t = some (.int k)) : Opens P t (Kd.int k) (fun n => (Lit.int k n).wf = true) := fun _ _ _ _ _ hx => by
  obtain ⟨n, rfl, _, hw⟩ := DataW.trod_int ht hx
  exact ⟨n, rfl, hw⟩
theorem opens_string {t : TypeId} (ht : P.underlying t = some .string) : Opens P t Kd.string (fun s => s.size ≤ maxLen) := fun _ _ _ _ _ hx => by
  obtain ⟨s, rfl, _, hw⟩ := DataW.trod_string ht hx
  exact ⟨s, rfl, hw⟩

/-- A slice: each element's cells are a value of the kind. -/
theorem opens_slice {α : Type} {t e : TypeId} {d : Kd α} {Q : α → Prop} (ht : P.underlying t = some (.slice e)) (hs : P.cellsOf e = d.sz) (h : Opens P e d Q) :
    Opens P t (Kd.slice e d) (fun l => l.length ≤ maxLen ∧ ∀ a, a ∈ l → Q a) := by
  intro H enc w fuel cs x hx
  rcases DataW.trod_slice ht hx with ⟨rfl, _⟩ | ⟨a, len, cap, elems, rest, n, _, rfl, _, _, hlc, hcm, hel, hat, _⟩
  · refine ⟨[], ⟨none, 0, rfl, Nat.le_refl _, rfl, by simp, fun hn => by simp at hn⟩, by simp [maxLen], fun a ha => by cases ha⟩
  · have hone : ∀ i, i < len → ∃ p cs', w.cells? 0 (a.add (i * d.sz)) d.sz = some cs' ∧ d.K w p cs' ∧ Q p := by
      intro i hi
      have := hat i hi
      rw [hs] at this
      obtain ⟨y, hy⟩ : ∃ y, elems[i]? = some y := ⟨_, List.getElem?_eq_getElem (by omega)⟩
      rw [hy] at this
      obtain ⟨cs', hc, hr⟩ := Option.bind_eq_some_iff.1 this
      obtain ⟨p, hp, hq⟩ := h enc w n cs' y hr
      exact ⟨p, cs', hc, hp, hq⟩
    have hall : ∀ m, m ≤ len → ∃ ps : List α, ps.length = m ∧ ∀ i p, ps[i]? = some p → ∃ cs', w.cells? 0 (a.add (i * d.sz)) d.sz = some cs' ∧ d.K w p cs' ∧ Q p := by
      intro m
      induction m with
      | zero => exact fun _ => ⟨[], rfl, fun i p hp => by simp at hp⟩
      | succ m ih =>
        intro hm
        obtain ⟨ps, hl, hps⟩ := ih (by omega)
        obtain ⟨p, cs', hc, hk, hq⟩ := hone m (by omega)
        refine ⟨ps ++ [p], by simp [hl], fun i q hq' => ?_⟩
        by_cases hi : i < ps.length
        · rw [List.getElem?_append_left hi] at hq'
          exact hps i q hq'
        · rw [List.getElem?_append_right (by omega)] at hq'
          have h0 : i - ps.length = 0 := by
            have := (List.getElem?_eq_some_iff.1 hq').1
            simp at this
            omega
          rw [h0] at hq'
          simp at hq'
          subst hq'
          have : i = m := by omega
          subst this
          exact ⟨cs', hc, hk, hq⟩
    obtain ⟨ps, hl, hps⟩ := hall len (Nat.le_refl _)
    refine ⟨ps, ⟨some a, cap, by rw [hl], by omega, rfl, by rw [hl]; unfold maxLen at hcm; omega, fun _ => ⟨a, rfl, fun j p hj => ?_⟩⟩, by rw [hl]; omega, fun p hp => ?_⟩
    · obtain ⟨cs', hc, hk, _⟩ := hps j p hj
      obtain ⟨_, hlen, hcell⟩ := World.cells?_some hc
      refine ⟨cs', hlen, hk, fun i u hu => ?_⟩
      have hi : i < d.sz := by rw [← hlen]; exact (List.getElem?_eq_some_iff.1 hu).1
      have := hcell i (by omega)
      rw [hu] at this
      rw [← this]
      congr 1
      rw [Addr.add_add]
    · obtain ⟨i, hi⟩ := List.getElem?_of_mem hp
      obtain ⟨_, _, _, hq⟩ := hps i p hi
      exact hq

/-- Fields one behind the other, from cell o on. -/
def OpensF {α : Type} (P : Program) (o : Nat) (fs : List Field) (d : Kd α) (Q : α → Prop) : Prop :=
  ∀ {H : Type} (enc : TypeId × Value → H) (w : World) (fuel : Nat) (cs : List Value), cs.length = o + d.sz →
    (∀ f, f ∈ fs → ∃ x, DataW.trod enc P w 0 (fun _ => true) true fuel f.type ((cs.drop f.offset).take (P.cellsOf f.type)) = some x) → ∃ a, d.K w a (cs.drop o) ∧ Q a
theorem opensF_one {α : Type} {o : Nat} {f : Field} {d : Kd α} {Q : α → Prop} (ho : f.offset = o) (hs : P.cellsOf f.type = d.sz) (h : Opens P f.type d Q) : OpensF P o [f] d Q := by
  intro H enc w fuel cs hl hf
  obtain ⟨x, hx⟩ := hf f (by simp)
  rw [ho, hs, List.take_of_length_le (by simp; omega)] at hx
  exact h enc w fuel _ x hx
theorem opensF_cons {α β : Type} {o : Nat} {f : Field} {fs : List Field} {d : Kd α} {d' : Kd β} {Q : α → Prop} {Q' : β → Prop} (ho : f.offset = o) (hs : P.cellsOf f.type = d.sz)
    (h : Opens P f.type d Q) (h' : OpensF P (o + d.sz) fs d' Q') : OpensF P o (f :: fs) (Kd.pair d d') (fun p => Q p.1 ∧ Q' p.2) := by
  intro H enc w fuel cs hl hf
  have hsz : (Kd.pair d d').sz = d.sz + d'.sz := rfl
  rw [hsz] at hl
  obtain ⟨x, hx⟩ := hf f (by simp)
  rw [ho, hs] at hx
  obtain ⟨a, ha, hq⟩ := h enc w fuel _ x hx
  obtain ⟨b, hb, hq'⟩ := h' enc w fuel cs (by omega) (fun g hg => hf g (by simp [hg]))
  refine ⟨(a, b), ?_, hq, hq'⟩
  refine ⟨(cs.drop o).take d.sz, cs.drop (o + d.sz), ?_, ha, hb⟩
  rw [← List.drop_drop, List.take_append_drop]
/-- A struct: its fields' kinds in a row, through an isomorphism's one way. -/
theorem opens_struct {α β : Type} {t : TypeId} {fs : Array Field} {d : Kd β} {Q : β → Prop} (pr : α → β) (mk : β → α) (hpm : ∀ b, pr (mk b) = b) (ht : P.underlying t = some (.struct fs)) (hs : P.cellsOf t = d.sz)
    (h : OpensF P 0 fs.toList d Q) : Opens P t (Kd.iso d pr) (fun a => Q (pr a)) := by
  intro H enc w fuel cs x hx
  obtain ⟨xs, n, _, _, hl, hn, hf⟩ := DataW.trod_struct ht hx
  obtain ⟨b, hb, hq⟩ := h enc w n cs (by omega) (fun f hf' => by
    obtain ⟨i, hi⟩ := List.getElem?_of_mem hf'
    have hi2 : fs[i]? = some f := by simpa using hi
    have hlt : i < fs.size := by
      have := (Array.getElem?_eq_some_iff.1 hi2).1
      exact this
    exact ⟨xs[i]'(by omega), by rw [hf i f hi2]; exact List.getElem?_eq_getElem _⟩)
  rw [List.drop_zero] at hb
  exact ⟨mk b, by show d.K w (pr (mk b)) cs; rw [hpm]; exact hb, by show Q (pr (mk b)); rw [hpm]; exact hq⟩

end Go.Proofs.YtknmfmedklfepaaGreatDoorO
