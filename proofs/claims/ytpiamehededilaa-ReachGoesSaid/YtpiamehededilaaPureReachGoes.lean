import Derived.Test.YtpiamehededilaaWWords
import Derived.Test.YtpiamehededilaaWMore
import Derived.Lib.Strings
import Derived.Test.YtpiamehededilaaP9
import Derived.Test.YtpiamehededilaaP11
import Derived.Test.YtpiamehededilaaP12
import Derived.Test.YtpiamehededilaaP14
import Derived.Test.YtpiamehededilaaP6
import Derived.Test.YtpiamehededilaaP8
import Derived.Test.YtpiamehededilaaP2
import Derived.Test.YtpiamehededilaaP10
import Derived.Test.YtpiamehededilaaP13
import Derived.Test.YtpiamehededilaaP20
import Derived.Test.YtpiamehededilaaP22
import Derived.Test.YtpiamehededilaaGReachGoes
/-
  Plain lemmas: 'eventually' (Ev) over the number of rounds, lists of octets. No program in sight.
-/
namespace Go.Proofs.YtpiamehededilaaB
open Go.RowKit Go.Proofs.YtpiamehededilaaW.PrintWords Go.Proofs.YtpiamehededilaaW.PrintLast Go.Proofs.YtpiamehededilaaW.PrintMore

theorem ev_rounds {α : Type} {g : Nat → Option α} {r : α} (h : Ev g r) : ∃ k, g k = some r := by
  obtain ⟨K, hK⟩ := h
  exact ⟨K, hK K (Nat.le_refl _)⟩
theorem ev_bind {α β : Type} {g : Nat → Option α} {f : Nat → α → Option β} {a : α} {r : β} (h : Ev g a) (k : Ev (fun n => f n a) r) : Ev (fun n => (g n).bind (f n)) r := Ev.bind h k
theorem ev_some {α β : Type} {f : Nat → α → Option β} {a : α} {r : β} (k : Ev (fun n => f n a) r) : Ev (fun n => (some a).bind (f n)) r := k
theorem ev_pos {α : Type} {c : Prop} [Decidable c] {f g : Nat → Option α} {r : α} (h : c) (k : Ev f r) : Ev (fun n => if c then f n else g n) r := by
  simpa only [if_pos h] using k
theorem ev_neg {α : Type} {c : Prop} [Decidable c] {f g : Nat → Option α} {r : α} (h : ¬ c) (k : Ev g r) : Ev (fun n => if c then f n else g n) r := by
  simpa only [if_neg h] using k
theorem ev_ite {α : Type} {c : Prop} [Decidable c] {f g : Nat → Option α} {r : α} (h : c → Ev f r) (k : ¬ c → Ev g r) : Ev (fun n => if c then f n else g n) r := by
  by_cases hc : c
  · exact ev_pos hc (h hc)
  · exact ev_neg hc (k hc)
theorem ev_now {α : Type} {a r : α} (h : a = r) : Ev (fun _ => some a) r := by subst h; exact ⟨0, fun _ _ => rfl⟩
theorem ev_const {α : Type} {g : Option α} {r : α} (h : g = some r) : Ev (fun _ => g) r := by subst h; exact ⟨0, fun _ _ => rfl⟩
theorem ev_last {α : Type} {g : Nat → Option α} {r : α} (h : Ev g r) : Ev (fun n => (g n).bind fun t => some t) r := ev_bind h (ev_now rfl)
theorem ev_step {α : Type} {g f : Nat → Option α} {r : α} (h : ∀ k, g (k + 1) = f k) (k : Ev f r) : Ev g r := Ev.step h k

/-! ### numbers -/
theorem w_id {i : Int} (h0 : -9223372036854775808 ≤ i) (h1 : i ≤ 9223372036854775807) : wrap64 i = i := by unfold wrap64; omega
theorem w_succ (i : Nat) (h : i ≤ 4611686018427387904) : wrap64 ((i : Int) + 1) = ((i + 1 : Nat) : Int) := by
  have h1 : wrap64 ((i : Int) + 1) = (i : Int) + 1 := w_id (by omega) (by omega)
  rw [h1]; rfl
theorem drop_nil {α : Type} (l : List α) (i : Nat) (h : l.length ≤ i) : l.drop i = [] := List.drop_eq_nil_of_le h
theorem dec_cons {α : Type} [DecidableEq α] (a b : α) (x y : List α) (h : a = b) : decide (a :: x = b :: y) = decide (x = y) := by subst h; simp
theorem dec_cons_ne {α : Type} [DecidableEq α] (a b : α) (x y : List α) (h : ¬ a = b) : decide (a :: x = b :: y) = false := by simp [h]

/-! ### texts -/
/-- A text's octets. -/
def L (s : ByteArray) : List UInt8 := s.data.toList
/-- Two texts held against one another. -/
def cmpL (x y : List UInt8) : Int := if x < y then -1 else if y < x then 1 else 0
end Go.Proofs.YtpiamehededilaaB

/-
  What is reached over edges, from the beginning and step by step. No program in sight.
-/
namespace Go.Proofs.Ytpiamehededilaa.Q
open Go.RowKit Go.Proofs.Ytpiamehededilaa.P Go.Proofs.YtpiamehededilaaB Go.Proofs.YtpiamehededilaaW.PrintWords Go.Proofs.YtpiamehededilaaW.PrintLast Go.Proofs.YtpiamehededilaaW.PrintMore
set_option linter.unusedSimpArgs false
set_option linter.unusedVariables false
abbrev Ed := S36
theorem srt_eq : ∀ {a b : List Int}, a.Pairwise (· < ·) → b.Pairwise (· < ·) → (∀ x, x ∈ a ↔ x ∈ b) → a = b
  | [], [], _, _, _ => rfl
  | [], y :: b, _, _, h => absurd ((h y).2 (List.mem_cons_self ..)) (by simp)
  | x :: a, [], _, _, h => absurd ((h x).1 (List.mem_cons_self ..)) (by simp)
  | x :: a, y :: b, ha, hb, h => by
    obtain ⟨ha1, ha2⟩ := List.pairwise_cons.1 ha
    obtain ⟨hb1, hb2⟩ := List.pairwise_cons.1 hb
    have e : x = y := by
      have h1 := (h x).1 (List.mem_cons_self ..)
      have h2 := (h y).2 (List.mem_cons_self ..)
      rcases List.mem_cons.1 h1 with e | h1
      · exact e
      · rcases List.mem_cons.1 h2 with e | h2
        · exact e.symm
        · have := ha1 _ h2
          have := hb1 _ h1
          omega
    subst e
    rw [srt_eq ha2 hb2 (fun z => ?_)]
    have hz := h z
    rw [List.mem_cons, List.mem_cons] at hz
    constructor
    · intro hm
      rcases hz.1 (.inr hm) with e | hm2
      · have := ha1 z hm
        omega
      · exact hm2
    · intro hm
      rcases hz.2 (.inr hm) with e | hm2
      · have := hb1 z hm
        omega
      · exact hm2
/-- An edge leads from a to y. -/
def E (l : List Ed) (a y : Int) : Prop := ∃ e, e ∈ l ∧ e.f0 = a ∧ e.f1 = y
/-- What is reached from the root. -/
def R (l : List Ed) (x : Int) : Prop := Rch (NextF l) (fun _ => False) [-1] x
theorem mem_nextF {l : List Ed} {a y : Int} : y ∈ NextF l a ↔ E l a y := mem_NextF
theorem mem_backF {l : List Ed} {a y : Int} : a ∈ BackF l y ↔ E l a y := by
  rw [mem_BackF]
  exact ⟨fun ⟨e, h, h1, h2⟩ => ⟨e, h, h2, h1⟩, fun ⟨e, h, h1, h2⟩ => ⟨e, h, h2, h1⟩⟩
theorem R.step {l : List Ed} {a y : Int} (h : a = -1 ∨ R l a) (hE : E l a y) : R l y :=
  Rch.go (h.imp (fun e => by rw [e]; exact List.mem_singleton.2 rfl) id) (mem_nextF.2 hE) (fun h => h)
theorem R.ind {l : List Ed} {S : Int → Prop} (h : ∀ a y, (a = -1 ∨ (R l a ∧ S a)) → E l a y → S y) {x : Int} (hx : R l x) : S x := by
  have h2 : R l x ∧ S x := hx (fun z => R l z ∧ S z) (fun a y ha hy _ => by
    have ha2 : a = -1 ∨ (R l a ∧ S a) := ha.imp (fun h => List.mem_singleton.1 h) id
    exact ⟨R.step (ha2.imp id And.left) (mem_nextF.1 hy), h a y ha2 (mem_nextF.1 hy)⟩)
  exact h2.2
theorem R.mono {l l' : List Ed} (h : ∀ a y, E l a y → E l' a y) {x : Int} (hx : R l x) : R l' x :=
  R.ind (S := fun x => R l' x) (fun a y ha hE => R.step (ha.imp id And.right) (h a y hE)) hx
theorem R.congr {l l' : List Ed} (h : ∀ a y, E l a y ↔ E l' a y) (x : Int) : R l x ↔ R l' x :=
  ⟨R.mono (fun a y => (h a y).1), R.mono (fun a y => (h a y).2)⟩
theorem R.into {l : List Ed} {x : Int} (h : R l x) : ∃ a, (a = -1 ∨ R l a) ∧ E l a x :=
  R.ind (S := fun x => ∃ a, (a = -1 ∨ R l a) ∧ E l a x) (fun a y ha hE => ⟨a, ha.imp id And.left, hE⟩) h
theorem mem_liveF {l : List Ed} {x : Int} : x ∈ liveF l ↔ R l x := by
  unfold liveF
  rw [mem_sortI, mem_spreadF]
  exact Rch_congr (fun y => by simp) (fun y => Iff.rfl) x
theorem liveF_sorted (l : List Ed) : (liveF l).Pairwise (· < ·) := sortI_sorted (spreadF_nodup _ _ _)
theorem liveF_len (l : List Ed) : (liveF l).length ≤ l.length :=
  Nat.le_trans (nodup_le ((liveF_sorted l).imp (fun h => by omega)) (fun x hx => by unfold liveF at hx; exact mem_sortI.1 hx)) (spreadF_len _ _ _)
theorem liveF_eq {l : List Ed} {a : List Int} (ha : a.Pairwise (· < ·)) (h : ∀ x, x ∈ a ↔ R l x) : a = liveF l := srt_eq ha (liveF_sorted l) (fun x => (h x).trans mem_liveF.symm)
/-! ### a pair more -/
section
variable {l l' : List Ed} {a b : Int}
theorem link_same (hE : ∀ p y, E l' p y ↔ E l p y ∨ (p = a ∧ y = b)) (h : ¬ (a = -1 ∨ R l a) ∨ R l b) (x : Int) : R l' x ↔ R l x := by
  refine ⟨fun hx => ?_, R.mono (fun p y hp => (hE p y).2 (.inl hp))⟩
  refine R.ind (S := fun x => R l x) (fun p y hp hpy => ?_) hx
  rcases (hE p y).1 hpy with hpy | ⟨rfl, rfl⟩
  · exact R.step (hp.imp id And.right) hpy
  · rcases h with h | h
    · exact absurd (hp.imp id And.right) h
    · exact h
theorem link_more {lv : List Int} (hlv : ∀ x, x ∈ lv ↔ R l x) (hE : ∀ p y, E l' p y ↔ E l p y ∨ (p = a ∧ y = b)) (ha : a = -1 ∨ R l a) (hb : ¬ R l b) (x : Int) : x ∈ lv ++ b :: spreadF l' (lv ++ [b]) [b] ↔ R l' x := by
  have hup : ∀ z, R l z → R l' z := fun z => R.mono (fun p y hp => (hE p y).2 (.inl hp))
  have hb' : R l' b := R.step (ha.imp id (hup a)) ((hE a b).2 (.inr ⟨rfl, rfl⟩))
  rw [List.mem_append, List.mem_cons, mem_spreadF, hlv]
  constructor
  · rintro (h | rfl | h)
    · exact hup x h
    · exact hb'
    · exact h (fun z => R l' z) (fun p y hp hpy _ => R.step (.inr (hp.elim (fun e => by rw [List.mem_singleton.1 e]; exact hb') id)) (mem_nextF.1 hpy))
  · intro hx
    refine R.ind (S := fun x => R l x ∨ x = b ∨ Rch (NextF l') (· ∈ lv ++ [b]) [b] x) (fun p y hp hpy => ?_) hx
    have key : (p = b ∨ Rch (NextF l') (· ∈ lv ++ [b]) [b] p) → R l y ∨ y = b ∨ Rch (NextF l') (· ∈ lv ++ [b]) [b] y := fun h => by
      by_cases hy : y ∈ lv ++ [b]
      · rcases List.mem_append.1 hy with hy | hy
        · exact .inl ((hlv y).1 hy)
        · exact .inr (.inl (List.mem_singleton.1 hy))
      · exact .inr (.inr (Rch.go (h.imp (fun e => by rw [e]; exact List.mem_singleton.2 rfl) id) (mem_nextF.2 hpy) hy))
    rcases hp with hp | ⟨_, hp | hp⟩
    · rcases (hE p y).1 hpy with hpy | ⟨_, rfl⟩
      · exact .inl (R.step (.inl hp) hpy)
      · exact .inr (.inl rfl)
    · rcases (hE p y).1 hpy with hpy | ⟨_, rfl⟩
      · exact .inl (R.step (.inr hp) hpy)
      · exact .inr (.inl rfl)
    · exact key hp
theorem link_came {lv : List Int} (hb : b ∉ lv) (x : Int) : x ∈ b :: spreadF l' (lv ++ [b]) [b] ↔ x ∈ lv ++ b :: spreadF l' (lv ++ [b]) [b] ∧ x ∉ lv := by
  rw [List.mem_append]
  constructor
  · intro h
    refine ⟨.inr h, ?_⟩
    rcases List.mem_cons.1 h with rfl | h
    · exact hb
    · intro hx
      exact ((spreadF_inv l' (lv ++ [b]) [b]).2.2 x h).1 (List.mem_append_left _ hx)
  · rintro ⟨h | h, hx⟩
    · exact absurd h hx
    · exact h
/-- What Link answers is what is reached from the beginning. -/
theorem linkF_eq {lv : List Int} (h0 : lv = liveF l) (hE : ∀ p y, E l' p y ↔ E l p y ∨ (p = a ∧ y = b)) : linkF l' lv a b = (l', liveF l', (liveF l').filter (fun x => decide (x ∉ lv)), 0) := by
  have hlv : ∀ x, x ∈ lv ↔ R l x := fun x => by rw [h0]; exact mem_liveF
  have hs : lv.Pairwise (· < ·) := h0 ▸ liveF_sorted l
  unfold linkF
  by_cases hc : ¬ (a = -1 ∨ a ∈ lv) ∨ b ∈ lv
  · rw [if_pos hc]
    have e : lv = liveF l' := liveF_eq hs (fun x => (hlv x).trans (link_same hE (by rw [← hlv, ← hlv]; exact hc) x).symm)
    rw [← e]
    have : lv.filter (fun x => decide (x ∉ lv)) = [] := List.filter_eq_nil_iff.2 (fun x hx => by simp [hx])
    rw [this]
  · rw [if_neg hc]
    have ha : a = -1 ∨ a ∈ lv := Classical.byContradiction fun h => hc (.inl h)
    have hb : b ∉ lv := fun h => hc (.inr h)
    have e : riseI (lv ++ b :: spreadF l' (lv ++ [b]) [b]) = liveF l' := liveF_eq (riseI_sorted _) (fun x => mem_riseI.trans (link_more hlv hE (by rw [← hlv]; exact ha) (fun h => hb ((hlv b).2 h)) x))
    rw [e]
    have e2 : riseI (b :: spreadF l' (lv ++ [b]) [b]) = (liveF l').filter (fun x => decide (x ∉ lv)) := srt_eq (riseI_sorted _) ((liveF_sorted l').sublist List.filter_sublist) (fun x => by
      rw [mem_riseI, List.mem_filter, decide_eq_true_iff, ← e, mem_riseI]
      exact link_came hb x)
    rw [e2]
end

/-! ### a pair less -/
section
variable {l l' : List Ed} {a b : Int}
theorem unlink_same (hE : ∀ p y, E l p y ↔ E l' p y ∨ (p = a ∧ y = b)) (h : ¬ (a = -1 ∨ R l a) ∨ E l' a b) (x : Int) : R l' x ↔ R l x := by
  refine ⟨R.mono (fun p y hp => (hE p y).2 (.inl hp)), fun hx => ?_⟩
  refine R.ind (S := fun x => R l' x) (fun p y hp hpy => ?_) hx
  rcases (hE p y).1 hpy with hpy | ⟨rfl, rfl⟩
  · exact R.step (hp.imp id And.right) hpy
  · rcases h with h | h
    · exact absurd (hp.imp id And.left) h
    · exact R.step (hp.imp id And.right) h
theorem mem_doubtU {x : Int} : x ∈ doubtU l' b ↔ x = b ∨ Rch (NextF l') (· ∈ [b]) [b] x := by
  unfold doubtU
  rw [List.mem_cons, mem_spreadF]
theorem doubtU_step {p y : Int} (h : p ∈ doubtU l' b) (hE : E l' p y) : y ∈ doubtU l' b := by
  rw [mem_doubtU] at h ⊢
  by_cases hy : y = b
  · exact .inl hy
  · exact .inr (Rch.go (h.imp (fun e => by rw [e]; exact List.mem_singleton.2 rfl) id) (mem_nextF.2 hE) (fun e => hy (List.mem_singleton.1 e)))
theorem unlink_doubt (hE : ∀ p y, E l p y ↔ E l' p y ∨ (p = a ∧ y = b)) {x : Int} (hx : R l x) : R l' x ∨ x ∈ doubtU l' b := by
  refine R.ind (S := fun x => R l' x ∨ x ∈ doubtU l' b) (fun p y hp hpy => ?_) hx
  rcases (hE p y).1 hpy with hpy | ⟨_, rfl⟩
  · rcases hp with hp | ⟨_, hp | hp⟩
    · exact .inl (R.step (.inl hp) hpy)
    · exact .inl (R.step (.inr hp) hpy)
    · exact .inr (doubtU_step hp hpy)
  · exact .inr (mem_doubtU.2 (.inl rfl))
theorem mem_sureU {lv : List Int} {x : Int} : x ∈ sureU l' lv b ↔ x ∈ doubtU l' b ∧ ∃ p, E l' p x ∧ (p = -1 ∨ p ∈ live1U l' lv b) := by
  unfold sureU
  rw [List.mem_filter, mem_riseI, sureP_iff]
  refine and_congr_right fun _ => ⟨fun ⟨p, h, h2⟩ => ⟨p, mem_backF.1 h, h2⟩, fun ⟨p, h, h2⟩ => ⟨p, mem_backF.2 h, h2⟩⟩
theorem unlink_live {lv : List Int} (hlv : ∀ x, x ∈ lv ↔ R l x) (hE : ∀ p y, E l p y ↔ E l' p y ∨ (p = a ∧ y = b)) (x : Int) : x ∈ liveU l' lv b ↔ R l' x := by
  have h1 : ∀ z, z ∈ live1U l' lv b → R l' z := fun z hz => by
    obtain ⟨hz1, hz2⟩ := mem_live1U.1 hz
    exact (unlink_doubt hE ((hlv z).1 hz1)).resolve_right hz2
  have h2 : ∀ z, z ∈ live2U l' lv b → R l' z := fun z hz => by
    unfold live2U at hz
    rcases List.mem_append.1 hz with hz | hz
    · exact h1 z hz
    · obtain ⟨_, p, hp, hp2⟩ := mem_sureU.1 hz
      exact R.step (hp2.imp id (h1 p)) hp
  have hdn : ∀ z, R l' z → R l z := fun z => R.mono (fun p y hp => (hE p y).2 (.inl hp))
  have hm : ∀ z, z ∈ liveU l' lv b ↔ z ∈ live2U l' lv b ∨ Rch (NextF l') (· ∈ live2U l' lv b) (sureU l' lv b) z := fun z => by
    unfold liveU
    rw [List.mem_append, mem_spreadF]
  constructor
  · intro hx
    rcases (hm x).1 hx with hx | hx
    · exact h2 x hx
    · exact hx (fun z => R l' z) (fun p y hp hpy _ => R.step (.inr (hp.elim (fun e => h2 p (by unfold live2U; exact List.mem_append_right _ e)) id)) (mem_nextF.1 hpy))
  · intro hx
    refine R.ind (S := fun x => x ∈ liveU l' lv b) (fun p y hp hpy => ?_) hx
    have hy : R l' y := R.step (hp.imp id And.left) hpy
    have key : (p = -1 ∨ p ∈ live1U l' lv b) → y ∈ liveU l' lv b := fun h => by
      rw [hm]
      refine .inl ?_
      unfold live2U
      by_cases hd : y ∈ doubtU l' b
      · exact List.mem_append_right _ (mem_sureU.2 ⟨hd, p, hpy, h⟩)
      · exact List.mem_append_left _ (mem_live1U.2 ⟨(hlv y).2 (hdn y hy), hd⟩)
    rcases hp with hp | ⟨_, hp⟩
    · exact key (.inl hp)
    · have go : (p ∈ sureU l' lv b ∨ Rch (NextF l') (· ∈ live2U l' lv b) (sureU l' lv b) p) → y ∈ liveU l' lv b := fun h => by
        rw [hm]
        by_cases hy2 : y ∈ live2U l' lv b
        · exact .inl hy2
        · exact .inr (Rch.go h (mem_nextF.2 hpy) hy2)
      rcases (hm p).1 hp with hp | hp
      · unfold live2U at hp
        rcases List.mem_append.1 hp with hp | hp
        · exact key (.inr hp)
        · exact go (.inl hp)
      · exact go (.inr hp)
/-- What Unlink answers is what is reached from the beginning. -/
theorem unlinkF_eq {lv : List Int} {m1 m2 : Int} (h0 : lv = liveF l) (hE : ∀ p y, E l p y ↔ E l' p y ∨ (p = a ∧ y = b)) (hm : 0 < m1 ↔ E l' a b) (hm2 : m2 = 0) : unlinkF l' lv a b m1 m2 = some (l', liveF l', lv.filter (fun x => decide (x ∉ liveF l')), 0) := by
  have hlv : ∀ x, x ∈ lv ↔ R l x := fun x => by rw [h0]; exact mem_liveF
  have hs : lv.Pairwise (· < ·) := h0 ▸ liveF_sorted l
  unfold unlinkF
  by_cases hc : ¬ (a = -1 ∨ a ∈ lv) ∨ (m2 = 0 ∧ 0 < m1)
  · rw [if_pos hc]
    have e : lv = liveF l' := liveF_eq hs (fun x => (hlv x).trans (unlink_same hE (by rw [← hlv, ← hm]; exact hc.imp id And.right) x).symm)
    rw [← e]
    have : lv.filter (fun x => decide (x ∉ lv)) = [] := List.filter_eq_nil_iff.2 (fun x hx => by simp [hx])
    rw [this]
  · rw [if_neg hc, if_pos hm2]
    have e : riseI (liveU l' lv b) = liveF l' := liveF_eq (riseI_sorted _) (fun x => mem_riseI.trans (unlink_live hlv hE x))
    have e2 : goneU l' lv b = lv.filter (fun x => decide (x ∉ liveF l')) := by
      unfold goneU
      refine srt_eq ((riseI_sorted _).sublist List.filter_sublist) (hs.sublist List.filter_sublist) (fun x => ?_)
      rw [List.mem_filter, List.mem_filter, mem_riseI, decide_eq_true_iff, mem_liveF]
      unfold goneP
      rw [decide_eq_true_iff, unlink_live hlv hE]
      exact ⟨fun h => ⟨h.2.2, h.2.1⟩, fun h => ⟨(unlink_doubt hE ((hlv x).1 h.1)).resolve_left h.2, h.2, h.1⟩⟩
    rw [e, e2]
end
end Go.Proofs.Ytpiamehededilaa.Q

/-
  What the printed functions of layers 11 and 15 come to.
-/
namespace Go.Proofs.Ytpiamehededilaa.Q
open Go.RowKit Go.Proofs.Ytpiamehededilaa.P Go.Proofs.YtpiamehededilaaB Go.Proofs.YtpiamehededilaaW.PrintWords Go.Proofs.YtpiamehededilaaW.PrintLast Go.Proofs.YtpiamehededilaaW.PrintMore
set_option linter.unusedSimpArgs false
set_option linter.unusedVariables false
theorem ed_ext {x y : Ed} (h0 : x.f0 = y.f0) (h1 : x.f1 = y.f1) (h2 : x.f2 = y.f2) : x = y := by
  cases x; cases y; cases h0; cases h1; cases h2; rfl
theorem rdE_at (l : List Ed) (i : Nat) (h : i < l.length) : rd_T36 l (i : Int) = l[i] := by
  simp [rd_T36, List.getD_eq_getElem?_getD, h]
theorem rdI_at (l : List Int) (i : Nat) (h : i < l.length) : rd l (i : Int) = l[i] := by
  simp [rd, List.getD_eq_getElem?_getD, h]

/-! ### lists of numbers -/
theorem has_loop (l : List Int) (x : Int) (hl : l.length ≤ 1000000) (d : Nat) : ∀ i : Nat, i + d = l.length → Ev (fun k => graftwoodref11_Has.l0 k l x i) (decide (x ∈ l.drop i)) := by
  induction d with
  | zero =>
    intro i hi
    refine ev_step (fun k => by rw [graftwoodref11_Has.l0]) ?_
    exact ev_neg (by omega) (ev_now (by rw [drop_nil l i (by omega)]; rfl))
  | succ d ih =>
    intro i hi
    refine ev_step (fun k => by rw [graftwoodref11_Has.l0]) ?_
    rw [rdI_at l i (by omega), w_succ i (by omega), List.drop_eq_getElem_cons (by omega)]
    refine ev_pos (by omega) (ev_pos (by omega) (ev_ite (fun h => ev_now (by simp [h])) (fun h => ?_)))
    have := ih (i + 1) (by omega)
    rw [show decide (x ∈ l[i] :: l.drop (i + 1)) = decide (x ∈ l.drop (i + 1)) by rw [decide_eq_decide, List.mem_cons]; exact ⟨fun e => e.resolve_left (fun e => h e.symm), .inr⟩]
    exact this
theorem has_ev (l : List Int) (x : Int) (hl : l.length ≤ 1000000) : Ev (fun k => graftwoodref11_Has.f k l x) (decide (x ∈ l)) := by
  unfold graftwoodref11_Has.f
  exact has_loop l x hl l.length 0 (by omega)
theorem ints_loop (a b : List Int) (hab : a.length = b.length) (hl : a.length ≤ 1000000) (d : Nat) : ∀ i : Nat, i + d = a.length → Ev (fun k => graftwoodref11_Ints.l0 k a b i) (decide (a.drop i = b.drop i)) := by
  induction d with
  | zero =>
    intro i hi
    refine ev_step (fun k => by rw [graftwoodref11_Ints.l0]) ?_
    exact ev_neg (by omega) (ev_now (by rw [drop_nil a i (by omega), drop_nil b i (by omega)]; rfl))
  | succ d ih =>
    intro i hi
    refine ev_step (fun k => by rw [graftwoodref11_Ints.l0]) ?_
    rw [rdI_at a i (by omega), rdI_at b i (by omega), w_succ i (by omega), List.drop_eq_getElem_cons (by omega), List.drop_eq_getElem_cons (show i < b.length by omega)]
    refine ev_pos (by omega) (ev_pos (by omega) (ev_pos (by omega) (ev_ite (fun h => ?_) (fun h => ?_))))
    · rw [dec_cons _ _ _ _ h]
      exact ih (i + 1) (by omega)
    · exact ev_now (dec_cons_ne _ _ _ _ h).symm
theorem ints_ev (a b : List Int) (hl : a.length ≤ 1000000) : Ev (fun k => graftwoodref11_Ints.f k a b) (decide (a = b)) := by
  unfold graftwoodref11_Ints.f
  refine ev_ite (fun h => ints_loop a b (by omega) hl a.length 0 (by omega)) (fun h => ev_now ?_)
  rw [eq_comm, decide_eq_false_iff_not]
  intro e
  exact h (by rw [e])
theorem equal_loop (a b : List Int) (hab : a.length = b.length) (hl : a.length ≤ 1000000) (d : Nat) : ∀ i : Nat, i + d = a.length → Ev (fun k => slices_Equal_int_int.l0 k a b (a.length : Int) i) (decide (a.drop i = b.drop i)) := by
  induction d with
  | zero =>
    intro i hi
    refine ev_step (fun k => by rw [slices_Equal_int_int.l0]) ?_
    exact ev_neg (by omega) (ev_now (by rw [drop_nil a i (by omega), drop_nil b i (by omega)]; rfl))
  | succ d ih =>
    intro i hi
    refine ev_step (fun k => by rw [slices_Equal_int_int.l0]) ?_
    rw [rdI_at a i (by omega), rdI_at b i (by omega), w_succ i (by omega), List.drop_eq_getElem_cons (by omega), List.drop_eq_getElem_cons (show i < b.length by omega)]
    refine ev_pos (by omega) (ev_pos (by omega) (ev_pos (by omega) (ev_pos (by omega) (ev_ite (fun h => ?_) (fun h => ?_)))))
    · rw [dec_cons _ _ _ _ h]
      exact ih (i + 1) (by omega)
    · exact ev_now (dec_cons_ne _ _ _ _ h).symm
theorem equal_ev (a b : List Int) (hl : a.length ≤ 1000000) : Ev (fun k => slices_Equal_int_int.f k a b) (decide (a = b)) := by
  unfold slices_Equal_int_int.f
  refine ev_ite (fun h => equal_loop a b (by omega) hl a.length 0 (by omega)) (fun h => ev_now ?_)
  rw [eq_comm, decide_eq_false_iff_not]
  intro e
  exact h (by rw [e])
theorem minus_loop (a b : List Int) (ha : a.length ≤ 1000000) (hb : b.length ≤ 1000000) (d : Nat) : ∀ (i : Nat) (o : List Int), i + d = a.length → o.length ≤ i → Ev (fun k => graftwoodref15_Minus.l0 k a b o i) (o ++ (a.drop i).filter (fun x => decide (x ∉ b))) := by
  induction d with
  | zero =>
    intro i o hi ho
    refine ev_step (fun k => by rw [graftwoodref15_Minus.l0]) ?_
    exact ev_neg (by omega) (ev_now (by rw [drop_nil a i (by omega)]; simp))
  | succ d ih =>
    intro i o hi ho
    refine ev_step (fun k => by rw [graftwoodref15_Minus.l0]) ?_
    rw [rdI_at a i (by omega), w_succ i (by omega), List.drop_eq_getElem_cons (by omega), List.filter_cons]
    refine ev_pos (by omega) (ev_pos (by omega) (ev_bind (has_ev b _ hb) ?_))
    by_cases h : a[i] ∈ b
    · rw [decide_eq_true h, if_neg (by simp [h])]
      exact ev_pos rfl (ih (i + 1) o (by omega) (by omega))
    · rw [decide_eq_false h, if_pos (by simp [h])]
      refine ev_neg (by decide) (ev_pos (by omega) ?_)
      have := ih (i + 1) (o ++ [a[i]]) (by omega) (by simp; omega)
      rw [List.append_assoc] at this
      exact this
theorem minus_ev (a b : List Int) (ha : a.length ≤ 1000000) (hb : b.length ≤ 1000000) : Ev (fun k => graftwoodref15_Minus.f k a b) (a.filter (fun x => decide (x ∉ b))) := by
  unfold graftwoodref15_Minus.f
  exact minus_loop a b ha hb a.length 0 [] (by omega) (by simp)

/-! ### edges: equal, in order -/
instance : DecidableEq Ed := fun x y => if h : x.f0 = y.f0 ∧ x.f1 = y.f1 ∧ x.f2 = y.f2 then isTrue (ed_ext h.1 h.2.1 h.2.2) else isFalse (fun e => h (by subst e; exact ⟨rfl, rfl, rfl⟩))
def ltE (x y : Ed) : Prop := x.f0 < y.f0 ∨ (x.f0 = y.f0 ∧ x.f1 < y.f1)
instance (x y : Ed) : Decidable (ltE x y) := inferInstanceAs (Decidable (_ ∨ _))
theorem ltE_trans {x y z : Ed} (h : ltE x y) (k : ltE y z) : ltE x z := by unfold ltE at *; omega
theorem ltE_irr {x : Ed} (h : ltE x x) : False := by unfold ltE at h; omega
theorem ltE_tri {x y : Ed} (h : ¬ ltE x y) (k : ¬ ltE y x) : x.f0 = y.f0 ∧ x.f1 = y.f1 := by unfold ltE at *; omega
def okE (e : Ed) : Prop := -1 ≤ e.f0 ∧ 0 ≤ e.f1 ∧ 1 ≤ e.f2 ∧ e.f2 ≤ 1099511627776
instance (e : Ed) : Decidable (okE e) := inferInstanceAs (Decidable (_ ∧ _))
/-- Edges that may be. -/
def MayE (l : List Ed) : Prop := (∀ e ∈ l, okE e) ∧ l.Pairwise ltE
instance (l : List Ed) : Decidable (MayE l) := inferInstanceAs (Decidable (_ ∧ _))
/-- From the i-th on, the i-th being held against the one ahead. -/
def MayFrom (l : List Ed) (i : Nat) : Prop := ∀ j, (h : j < l.length) → i ≤ j → okE l[j] ∧ (0 < j → ltE (l[j - 1]'(by omega)) l[j])
theorem mayFrom_iff (l : List Ed) : MayE l ↔ MayFrom l 0 := by
  constructor
  · intro h j hj _
    refine ⟨h.1 _ (List.getElem_mem hj), fun h0 => ?_⟩
    exact List.pairwise_iff_getElem.1 h.2 (j - 1) j (by omega) hj (by omega)
  · intro h
    refine ⟨fun e he => ?_, List.pairwise_iff_getElem.2 ?_⟩
    · obtain ⟨j, hj, rfl⟩ := List.getElem_of_mem he
      exact (h j hj (Nat.zero_le _)).1
    · intro i j hi hj hij
      obtain ⟨d, hd⟩ : ∃ d, j = i + 1 + d := ⟨j - i - 1, by omega⟩
      subst hd
      induction d with
      | zero => exact (h (i + 1) hj (Nat.zero_le _)).2 (by omega)
      | succ d ih => exact ltE_trans (ih (by omega) (by omega)) ((h (i + 1 + (d + 1)) hj (Nat.zero_le _)).2 (by omega))
theorem mayFrom_end (l : List Ed) (i : Nat) (h : l.length ≤ i) : MayFrom l i := fun j hj hi => by omega
theorem mayFrom_cons (l : List Ed) (i : Nat) (hi : i < l.length) : MayFrom l i ↔ (okE l[i] ∧ (0 < i → ltE (l[i - 1]'(by omega)) l[i])) ∧ MayFrom l (i + 1) := by
  constructor
  · intro h
    exact ⟨h i hi (Nat.le_refl _), fun j hj hij => h j hj (by omega)⟩
  · rintro ⟨h, h2⟩ j hj hij
    rcases Nat.eq_or_lt_of_le hij with rfl | hij
    · exact h
    · exact h2 j hj hij
noncomputable instance (l : List Ed) (i : Nat) : Decidable (MayFrom l i) := Classical.propDecidable _
end Go.Proofs.Ytpiamehededilaa.Q

/-
  What edges.Check, find, Add, Drop, Many and the document's answers for them come to.
-/
namespace Go.Proofs.Ytpiamehededilaa.Q
open Go.RowKit Go.Proofs.Ytpiamehededilaa.P Go.Proofs.YtpiamehededilaaB Go.Proofs.YtpiamehededilaaW.PrintWords Go.Proofs.YtpiamehededilaaW.PrintLast Go.Proofs.YtpiamehededilaaW.PrintMore
set_option linter.unusedSimpArgs false
set_option linter.unusedVariables false
theorem order_ev (a0 a1 a2 b0 b1 b2 : Int) : Ev (fun k => edges_order.f k a0 a1 a2 b0 b1 b2) (ordE a0 a1 b0 b1) := Ev.of (edges_order.mono _ _ _ _ _ _) (ord_eq a0 a1 a2 b0 b1 b2)
theorem ordE_lt (x y : Ed) : ordE x.f0 x.f1 y.f0 y.f1 < 0 ↔ ltE x y := by
  unfold ordE ltE
  repeat' split
  all_goals omega
theorem ordE_eq (x y : Ed) : ordE x.f0 x.f1 y.f0 y.f1 = 0 ↔ x.f0 = y.f0 ∧ x.f1 = y.f1 := by
  unfold ordE
  repeat' split
  all_goals omega
theorem check_loop (l : List Ed) (hl : l.length ≤ 1000000) (d : Nat) : ∀ i : Nat, i + d = l.length → Ev (fun k => edges_Check.l0 k l l (l.length : Int) i) (if MayFrom l i then 0 else 1) := by
  induction d with
  | zero =>
    intro i hi
    refine ev_step (fun k => by rw [edges_Check.l0]) ?_
    exact ev_neg (by omega) (ev_now (by rw [if_pos (mayFrom_end l i (by omega))]))
  | succ d ih =>
    intro i hi
    have hil : i < l.length := by omega
    refine ev_step (fun k => by rw [edges_Check.l0]) ?_
    rw [rdE_at l i hil, w_succ i (by omega)]
    have hc := mayFrom_cons l i hil
    have bad : ¬ (okE l[i] ∧ (0 < i → ltE (l[i - 1]'(by omega)) l[i])) → (1 : Int) = if MayFrom l i then 0 else 1 := fun h => by
      rw [if_neg (fun h2 => h (hc.1 h2).1)]
    have good : (okE l[i] ∧ (0 < i → ltE (l[i - 1]'(by omega)) l[i])) → (if MayFrom l (i + 1) then (0 : Int) else 1) = if MayFrom l i then 0 else 1 := fun h => by
      by_cases h2 : MayFrom l (i + 1)
      · rw [if_pos h2, if_pos (hc.2 ⟨h, h2⟩)]
      · rw [if_neg h2, if_neg (fun h3 => h2 (hc.1 h3).2)]
    refine ev_pos (by omega) (ev_pos (by omega) (ev_pos (by omega) ?_))
    refine ev_ite (fun h => ev_now (bad (fun hk => by have := hk.1.1; omega))) (fun h1 => ?_)
    refine ev_ite (fun h => ev_now (bad (fun hk => by have := hk.1.2.1; omega))) (fun h2 => ?_)
    refine ev_ite (fun h => ev_now (bad (fun hk => by have := hk.1.2.2.1; omega))) (fun h3 => ?_)
    refine ev_ite (fun h => ev_now (bad (fun hk => by have := hk.1.2.2.2; omega))) (fun h4 => ?_)
    have hok : okE l[i] := ⟨by omega, by omega, by omega, by omega⟩
    refine ev_ite (fun h => ?_) (fun h => ?_)
    · have e1 : wrap64 ((i : Int) - 1) = ((i - 1 : Nat) : Int) := by rw [w_id (by omega) (by omega)]; omega
      rw [e1, rdE_at l (i - 1) (by omega)]
      refine ev_pos (by omega) (ev_pos (by omega) (ev_bind (order_ev _ _ _ _ _ _) ?_))
      have hlt := ordE_lt (l[i - 1]'(by omega)) l[i]
      refine ev_ite (fun h5 => ev_now (bad (fun hk => by have := hlt.2 (hk.2 (by omega)); omega))) (fun h5 => ?_)
      rw [← good ⟨hok, fun _ => hlt.1 (by omega)⟩]
      exact ih (i + 1) (by omega)
    · rw [← good ⟨hok, fun h0 => absurd h0 (by omega)⟩]
      exact ih (i + 1) (by omega)
theorem check_ev (l : List Ed) (hl : l.length ≤ 1000000) : Ev (fun k => edges_Check.f k l) (if MayE l then 0 else 1) := by
  unfold edges_Check.f
  have h := check_loop l hl l.length 0 (by omega)
  rw [show (if MayFrom l 0 then (0 : Int) else 1) = if MayE l then 0 else 1 by by_cases hm : MayE l <;> simp [hm, (mayFrom_iff l).symm]] at h
  exact h

/-! ### where a pair stands -/
theorem bsGo_spec (l : List Ed) (a b : Int) (hs : l.Pairwise ltE) : ∀ (n i j : Nat), i ≤ j → j ≤ l.length → j ≤ i + n → (∀ t (h : t < l.length), t < i → ltE l[t] ⟨a, b, 0⟩) → (∀ t (h : t < l.length), j ≤ t → ¬ ltE l[t] ⟨a, b, 0⟩) →
    bsGo l a b n i j ≤ l.length ∧ (∀ t (h : t < l.length), t < bsGo l a b n i j → ltE l[t] ⟨a, b, 0⟩) ∧ (∀ t (h : t < l.length), bsGo l a b n i j ≤ t → ¬ ltE l[t] ⟨a, b, 0⟩)
  | 0, i, j, h1, h2, h3, h4, h5 => by
    obtain rfl : i = j := by omega
    exact ⟨h2, h4, h5⟩
  | n + 1, i, j, h1, h2, h3, h4, h5 => by
    rw [bsGo]
    by_cases hij : i < j
    · have hm : (i + j) / 2 < l.length := by omega
      have hmi : i ≤ (i + j) / 2 := by omega
      have hmj : (i + j) / 2 < j := by omega
      rw [if_pos hij, rdE_at l _ hm]
      have ho := ordE_lt l[(i + j) / 2] ⟨a, b, 0⟩
      by_cases hlt : ordE l[(i + j) / 2].f0 l[(i + j) / 2].f1 a b < 0
      · rw [if_pos hlt]
        have hlt' := ho.1 hlt
        refine bsGo_spec l a b hs n _ j (by omega) h2 (by omega) (fun t h ht => ?_) h5
        rcases Nat.lt_or_ge t ((i + j) / 2) with h6 | h6
        · exact ltE_trans (List.pairwise_iff_getElem.1 hs t _ h hm h6) hlt'
        · obtain rfl : t = (i + j) / 2 := by omega
          exact hlt'
      · rw [if_neg hlt]
        have hlt' : ¬ ltE l[(i + j) / 2] ⟨a, b, 0⟩ := fun h => hlt (ho.2 h)
        refine bsGo_spec l a b hs n i _ hmi (by omega) (by omega) h4 (fun t h ht h6 => ?_)
        rcases Nat.lt_or_ge ((i + j) / 2) t with h7 | h7
        · exact hlt' (ltE_trans (List.pairwise_iff_getElem.1 hs _ t hm h h7) h6)
        · obtain rfl : t = (i + j) / 2 := by omega
          exact hlt' h6
    · rw [if_neg hij]
      obtain rfl : i = j := by omega
      exact ⟨h2, h4, h5⟩
def ltA (A : List Ed) (a b : Int) : Prop := ∀ e ∈ A, ltE e ⟨a, b, 0⟩
def gtA (G : List Ed) (a b : Int) : Prop := ∀ e ∈ G, ltE ⟨a, b, 0⟩ e
/-- A pair's place in edges that are in order. -/
theorem place (l : List Ed) (hs : l.Pairwise ltE) (a b : Int) : (hasE l a b = false ∧ ∃ A G, l = A ++ G ∧ A.length = bsE l a b ∧ ltA A a b ∧ gtA G a b) ∨ (hasE l a b = true ∧ ∃ A n G, l = A ++ ⟨a, b, n⟩ :: G ∧ A.length = bsE l a b ∧ ltA A a b ∧ gtA G a b) := by
  obtain ⟨h1, h2, h3⟩ := bsGo_spec l a b hs l.length 0 l.length (Nat.zero_le _) (Nat.le_refl _) (by omega) (fun t h ht => by omega) (fun t h ht => by omega)
  change bsE l a b ≤ _ at h1
  change ∀ t h, t < bsE l a b → _ at h2
  change ∀ t h, bsE l a b ≤ t → _ at h3
  have hlen : (l.take (bsE l a b)).length = bsE l a b := by rw [List.length_take]; omega
  have hA : ltA (l.take (bsE l a b)) a b := fun e he => by
    obtain ⟨t, ht, rfl⟩ := List.getElem_of_mem he
    rw [List.getElem_take]
    exact h2 t (by omega) (by omega)
  unfold hasE
  rcases Nat.lt_or_ge (bsE l a b) l.length with hlt | hge
  · rw [decide_eq_true hlt, Bool.true_and, rdE_at l _ hlt]
    have he := ordE_eq l[bsE l a b] ⟨a, b, 0⟩
    have hd : l.drop (bsE l a b) = l[bsE l a b] :: l.drop (bsE l a b + 1) := List.drop_eq_getElem_cons hlt
    have hsplit : l = l.take (bsE l a b) ++ l[bsE l a b] :: l.drop (bsE l a b + 1) := by rw [← hd, List.take_append_drop]
    have hgt : ∀ e ∈ l.drop (bsE l a b + 1), ltE l[bsE l a b] e := fun e hm => by
      obtain ⟨t, ht, rfl⟩ := List.getElem_of_mem hm
      rw [List.getElem_drop]
      exact List.pairwise_iff_getElem.1 hs _ _ hlt (by rw [List.length_drop] at ht; omega) (by omega)
    by_cases hz : ordE l[bsE l a b].f0 l[bsE l a b].f1 a b = 0
    · refine .inr ⟨by simpa using hz, l.take (bsE l a b), l[bsE l a b].f2, l.drop (bsE l a b + 1), ?_, hlen, hA, fun e hm => ?_⟩
      · have e1 := (he.1 hz).1
        have e2 := (he.1 hz).2
        rw [show (⟨a, b, l[bsE l a b].f2⟩ : Ed) = l[bsE l a b] from ed_ext e1.symm e2.symm rfl]
        exact hsplit
      · have h4 := hgt e hm
        have e1 := (he.1 hz).1
        have e2 := (he.1 hz).2
        unfold ltE at h4 ⊢
        simp only at e1 e2 ⊢
        omega
    · refine .inl ⟨by simpa using hz, l.take (bsE l a b), l.drop (bsE l a b), (List.take_append_drop _ _).symm, hlen, hA, ?_⟩
      have h0 : ltE ⟨a, b, 0⟩ l[bsE l a b] := Classical.byContradiction fun h => hz (he.2 (ltE_tri (h3 _ hlt (Nat.le_refl _)) h))
      intro e hm
      rw [hd] at hm
      rcases List.mem_cons.1 hm with rfl | hm
      · exact h0
      · exact ltE_trans h0 (hgt e hm)
  · refine .inl ⟨by rw [decide_eq_false (by omega), Bool.false_and], l, [], (List.append_nil _).symm, by omega, ?_, fun e he => by cases he⟩
    rw [List.take_of_length_le hge] at hA
    exact hA

/-! ### the document's answers -/
theorem less_key (x : Ed) (a b n : Int) : ltE x ⟨a, b, n⟩ ↔ ltE x ⟨a, b, 0⟩ := Iff.rfl
def sameP (a b : Int) (e : Ed) : Bool := decide (e.f0 = a) && decide (e.f1 = b)
def manyE (l : List Ed) (a b : Int) : Int := ((l.filter (sameP a b)).map (·.f2)).foldr (· + ·) 0
theorem manyE_cons (e : Ed) (l : List Ed) (a b : Int) : manyE (e :: l) a b = (if e.f0 = a ∧ e.f1 = b then e.f2 else 0) + manyE l a b := by
  unfold manyE sameP
  rw [List.filter_cons]
  by_cases h : e.f0 = a ∧ e.f1 = b
  · rw [if_pos (by simp [h]), if_pos h]
    rfl
  · rw [if_neg h, if_neg (fun h2 => h (by simpa using h2))]
    omega
theorem manyE_bound (l : List Ed) (a b : Int) (h : ∀ e ∈ l, okE e) : 0 ≤ manyE l a b ∧ manyE l a b ≤ l.length * 1099511627776 := by
  induction l with
  | nil => exact ⟨Int.le_refl _, by simp [manyE]⟩
  | cons e l ih =>
    rw [manyE_cons, List.length_cons]
    obtain ⟨h1, h2⟩ := ih (fun e he => h e (List.mem_cons_of_mem _ he))
    have h3 := h e (List.mem_cons_self ..)
    unfold okE at h3
    push_cast
    split <;> omega
theorem manyE_append (A G : List Ed) (a b : Int) : manyE (A ++ G) a b = manyE A a b + manyE G a b := by
  induction A with
  | nil => simp [manyE]
  | cons e A ih => rw [List.cons_append, manyE_cons, manyE_cons, ih]; omega
theorem manyE_none {l : List Ed} {a b : Int} (h : ∀ e ∈ l, ¬ (e.f0 = a ∧ e.f1 = b)) : manyE l a b = 0 := by
  induction l with
  | nil => rfl
  | cons e l ih => rw [manyE_cons, if_neg (h e (List.mem_cons_self ..)), ih (fun e he => h e (List.mem_cons_of_mem _ he))]; rfl
theorem ltA_none {A : List Ed} {a b : Int} (h : ltA A a b) : ∀ e ∈ A, ¬ (e.f0 = a ∧ e.f1 = b) := fun e he hk => by
  have := h e he
  unfold ltE at this
  simp only at this
  omega
theorem gtA_none {A : List Ed} {a b : Int} (h : gtA A a b) : ∀ e ∈ A, ¬ (e.f0 = a ∧ e.f1 = b) := fun e he hk => by
  have := h e he
  unfold ltE at this
  simp only at this
  omega
def withE (l : List Ed) (x : Ed) : List Ed := (l.filter (fun e => decide (ltE e x)) ++ (if x.f2 > 0 then [x] else [])) ++ l.filter (fun e => decide (ltE x e))
end Go.Proofs.Ytpiamehededilaa.Q

/-
  What edges.Add, Drop, Many and reach's functions come to.
-/
namespace Go.Proofs.Ytpiamehededilaa.Q
open Go.RowKit Go.Proofs.Ytpiamehededilaa.P Go.Proofs.YtpiamehededilaaB Go.Proofs.YtpiamehededilaaW.PrintWords Go.Proofs.YtpiamehededilaaW.PrintLast Go.Proofs.YtpiamehededilaaW.PrintMore
set_option linter.unusedSimpArgs false
set_option linter.unusedVariables false
/-! ### With -/
theorem mem_withE {l : List Ed} {a b n : Int} {e : Ed} : e ∈ withE l ⟨a, b, n⟩ ↔ (e ∈ l ∧ ¬ (e.f0 = a ∧ e.f1 = b)) ∨ (0 < n ∧ e = ⟨a, b, n⟩) := by
  unfold withE
  rw [List.mem_append, List.mem_append, List.mem_filter, List.mem_filter, decide_eq_true_iff, decide_eq_true_iff]
  have h1 : e ∈ (if (⟨a, b, n⟩ : Ed).f2 > 0 then [(⟨a, b, n⟩ : Ed)] else []) ↔ 0 < n ∧ e = ⟨a, b, n⟩ := by
    by_cases h : n > 0
    · rw [if_pos (show (⟨a, b, n⟩ : Ed).f2 > 0 from h), List.mem_singleton]
      exact ⟨fun e => ⟨h, e⟩, And.right⟩
    · rw [if_neg (show ¬ (⟨a, b, n⟩ : Ed).f2 > 0 from h)]
      exact ⟨(fun e => by cases e), (fun e => absurd e.1 h)⟩
  have h2 : ltE e ⟨a, b, n⟩ ∨ ltE ⟨a, b, n⟩ e ↔ ¬ (e.f0 = a ∧ e.f1 = b) := by
    unfold ltE
    simp only
    omega
  rw [h1, ← h2]
  constructor
  · rintro ((⟨h, h3⟩ | h) | ⟨h, h3⟩)
    · exact .inl ⟨h, .inl h3⟩
    · exact .inr h
    · exact .inl ⟨h, .inr h3⟩
  · rintro (⟨h, h3 | h3⟩ | h)
    · exact .inl (.inl ⟨h, h3⟩)
    · exact .inr ⟨h, h3⟩
    · exact .inl (.inr h)
theorem withE_len (l : List Ed) (a b n : Int) : (withE l ⟨a, b, n⟩).length ≤ l.length + 1 := by
  unfold withE
  rw [List.length_append, List.length_append]
  have h : (l.filter (fun e => decide (ltE e ⟨a, b, n⟩))).length + (l.filter (fun e => decide (ltE ⟨a, b, n⟩ e))).length ≤ l.length := by
    induction l with
    | nil => simp
    | cons e l ih =>
      rw [List.filter_cons, List.filter_cons, List.length_cons]
      by_cases h1 : ltE e ⟨a, b, n⟩
      · have h2 : ¬ ltE ⟨a, b, n⟩ e := fun h => ltE_irr (ltE_trans h1 h)
        rw [if_pos (by simpa using h1), if_neg (by simpa using h2), List.length_cons]
        omega
      · rw [if_neg (by simpa using h1)]
        by_cases h2 : ltE ⟨a, b, n⟩ e
        · rw [if_pos (by simpa using h2), List.length_cons]
          omega
        · rw [if_neg (by simpa using h2)]
          omega
  split <;> simp only [List.length_cons, List.length_nil] <;> omega
theorem withE_may {l : List Ed} {a b n : Int} (h : MayE l) (ha : -1 ≤ a) (hb : 0 ≤ b) (hn : n ≤ 1099511627776) : MayE (withE l ⟨a, b, n⟩) := by
  refine ⟨fun e he => ?_, ?_⟩
  · rcases mem_withE.1 he with ⟨h1, _⟩ | ⟨h1, rfl⟩
    · exact h.1 e h1
    · exact ⟨ha, hb, h1, hn⟩
  · unfold withE
    have hm : ∀ y, y ∈ (if (⟨a, b, n⟩ : Ed).f2 > 0 then [(⟨a, b, n⟩ : Ed)] else []) → y = ⟨a, b, n⟩ := fun y hy => by
      split at hy
      · exact List.mem_singleton.1 hy
      · cases hy
    refine List.pairwise_append.2 ⟨List.pairwise_append.2 ⟨h.2.sublist List.filter_sublist, ?_, fun x hx y hy => ?_⟩, h.2.sublist List.filter_sublist, fun x hx y hy => ?_⟩
    · split
      · exact List.pairwise_singleton _ _
      · exact List.Pairwise.nil
    · rw [hm y hy]
      exact of_decide_eq_true (List.mem_filter.1 hx).2
    · have h2 : ltE ⟨a, b, n⟩ y := of_decide_eq_true (List.mem_filter.1 hy).2
      rcases List.mem_append.1 hx with hx | hx
      · exact ltE_trans (of_decide_eq_true (List.mem_filter.1 hx).2) h2
      · rw [hm x hx]
        exact h2
theorem withE_of {A M G : List Ed} {a b n : Int} (hA : ltA A a b) (hM : ∀ e ∈ M, e.f0 = a ∧ e.f1 = b) (hG : gtA G a b) : withE (A ++ (M ++ G)) ⟨a, b, n⟩ = A ++ ((if n > 0 then [(⟨a, b, n⟩ : Ed)] else []) ++ G) := by
  have f1 : ∀ L : List Ed, ltA L a b → L.filter (fun e => decide (ltE e ⟨a, b, n⟩)) = L ∧ L.filter (fun e => decide (ltE ⟨a, b, n⟩ e)) = [] := fun L hL =>
    ⟨List.filter_eq_self.2 (fun e he => by simpa using (less_key e a b n).2 (hL e he)), List.filter_eq_nil_iff.2 (fun e he => by have := hL e he; simp only [decide_eq_true_eq]; exact fun h => ltE_irr (ltE_trans h this))⟩
  have f2 : ∀ L : List Ed, gtA L a b → L.filter (fun e => decide (ltE e ⟨a, b, n⟩)) = [] ∧ L.filter (fun e => decide (ltE ⟨a, b, n⟩ e)) = L := fun L hL =>
    ⟨List.filter_eq_nil_iff.2 (fun e he => by have h2 : ltE ⟨a, b, n⟩ e := hL e he; simp only [decide_eq_true_eq]; exact fun h => ltE_irr (ltE_trans h h2)), List.filter_eq_self.2 (fun e he => by have h2 : ltE ⟨a, b, n⟩ e := hL e he; simpa using h2)⟩
  have f3 : M.filter (fun e => decide (ltE e ⟨a, b, n⟩)) = [] ∧ M.filter (fun e => decide (ltE ⟨a, b, n⟩ e)) = [] :=
    ⟨List.filter_eq_nil_iff.2 (fun e he => by have := hM e he; simp only [decide_eq_true_eq]; unfold ltE; simp only; omega), List.filter_eq_nil_iff.2 (fun e he => by have := hM e he; simp only [decide_eq_true_eq]; unfold ltE; simp only; omega)⟩
  unfold withE
  simp only [List.filter_append, (f1 A hA).1, (f1 A hA).2, (f2 G hG).1, (f2 G hG).2, f3.1, f3.2, List.append_nil, List.nil_append, List.append_assoc]
theorem E_withE {l : List Ed} {a b n p y : Int} : E (withE l ⟨a, b, n⟩) p y ↔ (E l p y ∧ ¬ (p = a ∧ y = b)) ∨ (0 < n ∧ p = a ∧ y = b) := by
  constructor
  · rintro ⟨e, he, rfl, rfl⟩
    rcases mem_withE.1 he with ⟨h1, h2⟩ | ⟨h1, rfl⟩
    · exact .inl ⟨⟨e, h1, rfl, rfl⟩, h2⟩
    · exact .inr ⟨h1, rfl, rfl⟩
  · rintro (⟨⟨e, he, rfl, rfl⟩, h2⟩ | ⟨h1, rfl, rfl⟩)
    · exact ⟨e, mem_withE.2 (.inl ⟨he, h2⟩), rfl, rfl⟩
    · exact ⟨_, mem_withE.2 (.inr ⟨h1, rfl⟩), rfl, rfl⟩
theorem E_many {l : List Ed} {a b : Int} (h : ∀ e ∈ l, okE e) : 0 < manyE l a b ↔ E l a b := by
  induction l with
  | nil => exact ⟨fun h => by simp [manyE] at h, fun ⟨e, he, _⟩ => by cases he⟩
  | cons e l ih =>
    rw [manyE_cons]
    have ih := ih (fun e he => h e (List.mem_cons_of_mem _ he))
    have hb := manyE_bound l a b (fun e he => h e (List.mem_cons_of_mem _ he))
    have he := h e (List.mem_cons_self ..)
    unfold okE at he
    constructor
    · intro h1
      by_cases hc : e.f0 = a ∧ e.f1 = b
      · exact ⟨e, List.mem_cons_self .., hc.1, hc.2⟩
      · rw [if_neg hc] at h1
        obtain ⟨e', h2, h3⟩ := ih.1 (by omega)
        exact ⟨e', List.mem_cons_of_mem _ h2, h3⟩
    · rintro ⟨e', h2, h3, h4⟩
      rcases List.mem_cons.1 h2 with rfl | h2
      · rw [if_pos ⟨h3, h4⟩]
        omega
      · have := ih.2 ⟨e', h2, h3, h4⟩
        split <;> omega
theorem many_miss {A G : List Ed} {a b : Int} (hA : ltA A a b) (hG : gtA G a b) : manyE (A ++ G) a b = 0 := by
  rw [manyE_append, manyE_none (ltA_none hA), manyE_none (gtA_none hG)]
  rfl
theorem many_hit {A G : List Ed} {a b n : Int} (hA : ltA A a b) (hG : gtA G a b) : manyE (A ++ ⟨a, b, n⟩ :: G) a b = n := by
  rw [manyE_append, manyE_cons, manyE_none (ltA_none hA), manyE_none (gtA_none hG), if_pos ⟨rfl, rfl⟩]
  show 0 + (n + 0) = n
  omega
/-! ### edges -/
def okP (a b : Int) : Prop := -1 ≤ a ∧ 0 ≤ b
instance (a b : Int) : Decidable (okP a b) := inferInstanceAs (Decidable (_ ∧ _))
theorem find_ev (l : List Ed) (a b : Int) (hl : l.length ≤ 1000000) (h : MayE l ∧ okP a b) : Ev (fun k => edges_find.f k l a b) (l, (bsE l a b : Int), hasE l a b, 0) := by
  unfold edges_find.f
  refine ev_bind (check_ev l hl) ?_
  have h2 := h.2
  unfold okP at h2
  rw [if_pos h.1]
  exact ev_pos ⟨rfl, by omega, by omega⟩ (ev_pos (by omega) (ev_now rfl))
theorem find_bad (l : List Ed) (a b : Int) (hl : l.length ≤ 1000000) (h : ¬ (MayE l ∧ okP a b)) : Ev (fun k => edges_find.f k l a b) ([], 0, false, 1) := by
  unfold edges_find.f
  refine ev_bind (check_ev l hl) ?_
  refine ev_neg (fun hc => h ⟨?_, ?_⟩) (ev_now rfl)
  · by_cases hm : MayE l
    · exact hm
    · have := hc.1
      rw [if_neg hm] at this
      cases this
  · unfold okP
    omega
theorem Add_bad (l : List Ed) (a b : Int) (hl : l.length ≤ 1000000) (h : ¬ (MayE l ∧ okP a b)) : Ev (fun k => edges_Add.f k l a b) ([], 1) := by
  unfold edges_Add.f
  exact ev_bind (find_bad l a b hl h) (ev_neg (by decide) (ev_now rfl))
theorem Drop_bad (l : List Ed) (a b : Int) (hl : l.length ≤ 1000000) (h : ¬ (MayE l ∧ okP a b)) : Ev (fun k => edges_Drop.f k l a b) ([], 2 - 1) := by
  unfold edges_Drop.f
  exact ev_bind (find_bad l a b hl h) (ev_neg (by decide) (ev_now rfl))
theorem rdE_mid (A : List Ed) (x : Ed) (G : List Ed) : rd_T36 (A ++ x :: G) (A.length : Int) = x := by
  rw [rdE_at _ _ (by simp)]
  simp
theorem Add_ev (l : List Ed) (a b : Int) (hl : l.length ≤ 1000000) (h : MayE l ∧ okP a b) : Ev (fun k => edges_Add.f k l a b) (if manyE l a b = 1099511627776 then ([], 4) else (withE l ⟨a, b, manyE l a b + 1⟩, 0)) := by
  unfold edges_Add.f
  refine ev_bind (find_ev l a b hl h) (ev_pos rfl ?_)
  rcases place l h.1.2 a b with ⟨hh, A, G, rfl, hlen, hA, hG⟩ | ⟨hh, A, n, G, rfl, hlen, hA, hG⟩
  · simp only
    rw [hh, many_miss hA hG, if_neg (show ¬ (0 : Int) = 1099511627776 by decide), ← hlen]
    refine ev_neg (by decide) ?_
    have h1 := withE_of (M := []) (n := 0 + 1) hA (fun e he => by cases he) hG
    rw [List.nil_append] at h1
    have h2 : api_Edge_51.f (A ++ G) (A.length : Int) ([(⟨a, b, 1⟩ : Ed)]) = some (withE (A ++ G) ⟨a, b, 0 + 1⟩) := by
      unfold api_Edge_51.f
      rw [if_pos ⟨by omega, by omega, by simp; omega, rfl⟩, h1]
      simp
    rw [h2]
    exact ev_some (ev_now rfl)
  · have hn : okE ⟨a, b, n⟩ := h.1.1 _ (by simp)
    unfold okE at hn
    simp only at hn ⊢
    rw [hh, many_hit hA hG, ← hlen, rdE_mid]
    simp only
    refine ev_pos trivial (ev_pos (by omega) (ev_pos (by simp; omega) ?_))
    refine ev_ite (fun h1 => ?_) (fun h1 => ?_)
    · rw [if_pos h1]
      exact ev_now rfl
    · rw [if_neg h1]
      have h2 := withE_of (M := [⟨a, b, n⟩]) (n := n + 1) hA (fun e he => (List.mem_singleton.1 he) ▸ ⟨rfl, rfl⟩) hG
      rw [List.singleton_append, if_pos (by omega)] at h2
      rw [h2, w_id (by omega) (by omega)]
      refine ev_now ?_
      simp
theorem Drop_ev (l : List Ed) (a b : Int) (hl : l.length ≤ 1000000) (h : MayE l ∧ okP a b) : Ev (fun k => edges_Drop.f k l a b) (if manyE l a b = 0 then ([], 2) else (withE l ⟨a, b, manyE l a b - 1⟩, 0)) := by
  unfold edges_Drop.f
  refine ev_bind (find_ev l a b hl h) (ev_pos rfl ?_)
  rcases place l h.1.2 a b with ⟨hh, A, G, rfl, hlen, hA, hG⟩ | ⟨hh, A, n, G, rfl, hlen, hA, hG⟩
  · simp only
    rw [hh, many_miss hA hG, if_pos rfl]
    exact ev_neg (by decide) (ev_now rfl)
  · have hn : okE ⟨a, b, n⟩ := h.1.1 _ (by simp)
    unfold okE at hn
    simp only at hn ⊢
    rw [hh, many_hit hA hG, ← hlen, rdE_mid, if_neg (show ¬ n = 0 by omega)]
    simp only
    refine ev_pos trivial (ev_pos (by omega) (ev_pos (by simp; omega) ?_))
    have h2 := withE_of (M := [⟨a, b, n⟩]) (n := n - 1) hA (fun e he => (List.mem_singleton.1 he) ▸ ⟨rfl, rfl⟩) hG
    rw [List.singleton_append] at h2
    have h3 : (A ++ (⟨a, b, n⟩ : Ed) :: G).set (A.length : Int).toNat ⟨a, b, wrap64 (n - 1)⟩ = A ++ ⟨a, b, n - 1⟩ :: G := by
      rw [w_id (by omega) (by omega)]
      simp
    rw [h3]
    refine ev_some ?_
    rw [rdE_mid]
    simp only
    refine ev_ite (fun h1 => ?_) (fun h1 => ?_)
    · rw [if_neg (by omega)] at h2
      have h4 : wrap64 ((A.length : Int) + 1) = (A.length : Int) + 1 := w_id (by omega) (by simp at hl; omega)
      have h5 : api_Edge_54.f (A ++ (⟨a, b, n - 1⟩ : Ed) :: G) (A.length : Int) (wrap64 ((A.length : Int) + 1)) = some (A ++ ([] ++ G)) := by
        unfold api_Edge_54.f
        rw [h4, if_pos ⟨by simp at hl ⊢; omega, by omega, rfl, by simp; omega⟩]
        have e1 : ((A.length : Int) + 1).toNat = A.length + 1 := by omega
        simp [e1]
      rw [h5, h2]
      exact ev_some (ev_now rfl)
    · rw [if_pos (by omega)] at h2
      rw [h2]
      exact ev_now rfl
theorem Many_ev (l : List Ed) (a b : Int) (hl : l.length ≤ 1000000) (h : MayE l ∧ okP a b) : Ev (fun k => edges_Many.f k l a b) (manyE l a b, 0) := by
  unfold edges_Many.f
  refine ev_bind (find_ev l a b hl h) (ev_pos rfl ?_)
  rcases place l h.1.2 a b with ⟨hh, A, G, rfl, hlen, hA, hG⟩ | ⟨hh, A, n, G, rfl, hlen, hA, hG⟩
  · simp only
    rw [hh, many_miss hA hG]
    exact ev_neg (by decide) (ev_now rfl)
  · simp only
    rw [hh, many_hit hA hG, ← hlen, rdE_mid]
    exact ev_pos rfl (ev_pos (by omega) (ev_pos (by simp; omega) (ev_now rfl)))

/-! ### reach -/
/-- Few, and within an int's range. -/
def smE (l : List Ed) : Prop := l.length ≤ 1000 ∧ ∀ e ∈ l, (Lit.int .i64 e.f0).wf = true ∧ (Lit.int .i64 e.f1).wf = true
def smI (l : List Int) : Prop := l.length ≤ 1000 ∧ ∀ x ∈ l, (Lit.int .i64 x).wf = true
theorem bndE_of {l : List Ed} (h : smE l) : bndE l = true := by
  unfold bndE
  rw [Bool.and_eq_true, List.all_eq_true, decide_eq_true_iff]
  exact ⟨by have := h.1; omega, fun e he => by rw [Bool.and_eq_true]; exact h.2 e he⟩
theorem bndI_of {l : List Int} (h : smI l) : bndI l = true := by
  unfold bndI
  rw [Bool.and_eq_true, List.all_eq_true, decide_eq_true_iff]
  exact ⟨by have := h.1; omega, h.2⟩
theorem Of_ev (l : List Ed) (h : smE l) : Ev (fun k => reach_Of.f k l) (if MayE l then (l, liveF l, 0) else ([], [], 1)) := by
  unfold reach_Of.f
  refine ev_bind (check_ev l (by have := h.1; omega)) ?_
  by_cases hm : MayE l
  · rw [if_pos hm, if_pos hm]
    exact ev_pos rfl (ev_pos (bndE_of h) (ev_now rfl))
  · rw [if_neg hm, if_neg hm]
    exact ev_neg (by decide) (ev_now rfl)
/-- A graph that may be. -/
def MayG (l : List Ed) (lv : List Int) : Prop := MayE l ∧ lv = liveF l
instance (l : List Ed) (lv : List Int) : Decidable (MayG l lv) := inferInstanceAs (Decidable (_ ∧ _))
theorem Check_ev (l : List Ed) (lv : List Int) (h : smE l) : Ev (fun k => reach_Check.f k l lv) (if MayG l lv then 0 else 1) := by
  unfold reach_Check.f
  refine ev_bind (Of_ev l h) ?_
  by_cases hm : MayE l
  · rw [if_pos hm]
    refine ev_pos rfl (ev_bind (equal_ev _ _ (by have := liveF_len l; have := h.1; simp only; omega)) (ev_now ?_))
    simp only [decide_eq_true_eq]
    by_cases he : liveF l = lv
    · rw [if_pos he, if_pos ⟨hm, he.symm⟩]
    · rw [if_neg he, if_neg (fun h => he h.2.symm)]
  · rw [if_neg hm, if_neg (fun h => hm h.1)]
    exact ev_neg (by decide) (ev_now rfl)
theorem smE_with {l : List Ed} {a b n : Int} (h : l.length ≤ 999 ∧ ∀ e ∈ l, (Lit.int .i64 e.f0).wf = true ∧ (Lit.int .i64 e.f1).wf = true) (ha : (Lit.int .i64 a).wf = true) (hb : (Lit.int .i64 b).wf = true) : smE (withE l ⟨a, b, n⟩) := by
  refine ⟨by have := withE_len l a b n; have := h.1; omega, fun e he => ?_⟩
  rcases mem_withE.1 he with ⟨h1, _⟩ | ⟨_, rfl⟩
  · exact h.2 e h1
  · exact ⟨ha, hb⟩
/-- What Link answers. -/
def LinkS (l : List Ed) (lv : List Int) (a b : Int) : List Ed × List Int × List Int × Int :=
  if ¬ (MayG l lv ∧ okP a b) then (l, lv, [], 1) else if manyE l a b = 1099511627776 then (l, lv, [], 4) else
    (withE l ⟨a, b, manyE l a b + 1⟩, liveF (withE l ⟨a, b, manyE l a b + 1⟩), (liveF (withE l ⟨a, b, manyE l a b + 1⟩)).filter (fun x => decide (x ∉ lv)), 0)
def UnlinkS (l : List Ed) (lv : List Int) (a b : Int) : List Ed × List Int × List Int × Int :=
  if ¬ (MayG l lv ∧ okP a b) then (l, lv, [], 1) else if manyE l a b = 0 then (l, lv, [], 2) else
    (withE l ⟨a, b, manyE l a b - 1⟩, liveF (withE l ⟨a, b, manyE l a b - 1⟩), lv.filter (fun x => decide (x ∉ liveF (withE l ⟨a, b, manyE l a b - 1⟩))), 0)
theorem bnd2 {a b : Int} (ha : (Lit.int .i64 a).wf = true) (hb : (Lit.int .i64 b).wf = true) : bndI [a, b] = true := bndI_of ⟨by simp, fun x hx => by
  simp only [List.mem_cons, List.not_mem_nil, or_false] at hx
  rcases hx with rfl | rfl
  · exact ha
  · exact hb⟩
theorem E_link {l : List Ed} {a b : Int} (h : MayE l) (p y : Int) : E (withE l ⟨a, b, manyE l a b + 1⟩) p y ↔ E l p y ∨ (p = a ∧ y = b) := by
  have h1 := manyE_bound l a b h.1
  rw [E_withE]
  constructor
  · rintro (h2 | h2)
    · exact .inl h2.1
    · exact .inr h2.2
  · rintro (h2 | h2)
    · by_cases hc : p = a ∧ y = b
      · exact .inr ⟨by omega, hc⟩
      · exact .inl ⟨h2, hc⟩
    · exact .inr ⟨by omega, h2⟩
theorem E_unlink {l : List Ed} {a b : Int} (h : MayE l) (h0 : manyE l a b ≠ 0) (p y : Int) : E l p y ↔ E (withE l ⟨a, b, manyE l a b - 1⟩) p y ∨ (p = a ∧ y = b) := by
  have h1 := manyE_bound l a b h.1
  rw [E_withE]
  constructor
  · intro h2
    by_cases hc : p = a ∧ y = b
    · exact .inr hc
    · exact .inl (.inl ⟨h2, hc⟩)
  · rintro ((h2 | h2) | h2)
    · exact h2.1
    · obtain ⟨_, rfl, rfl⟩ := h2
      exact (E_many h.1).1 (by omega)
    · obtain ⟨rfl, rfl⟩ := h2
      exact (E_many h.1).1 (by omega)
theorem Link_ev (l : List Ed) (lv : List Int) (a b : Int) (h : l.length ≤ 999 ∧ ∀ e ∈ l, (Lit.int .i64 e.f0).wf = true ∧ (Lit.int .i64 e.f1).wf = true) (hv : smI lv) (ha : (Lit.int .i64 a).wf = true) (hb : (Lit.int .i64 b).wf = true) : Ev (fun k => reach_Link.f k l lv a b) (LinkS l lv a b) := by
  unfold reach_Link.f LinkS
  have hs : smE l := ⟨by have := h.1; omega, h.2⟩
  refine ev_bind (Check_ev l lv hs) ?_
  by_cases hm : MayG l lv
  · rw [if_pos hm]
    refine ev_pos rfl ?_
    by_cases hp : okP a b
    · rw [if_neg (fun h => h ⟨hm, hp⟩)]
      refine ev_bind (Add_ev l a b (by have := h.1; omega) ⟨hm.1, hp⟩) ?_
      by_cases h4 : manyE l a b = 1099511627776
      · rw [if_pos h4, if_pos h4]
        exact ev_neg (by decide) (ev_now rfl)
      · rw [if_neg h4, if_neg h4]
        refine ev_pos rfl (ev_pos ⟨bndE_of (smE_with h ha hb), bndI_of hv, bnd2 ha hb⟩ (ev_now ?_))
        exact linkF_eq hm.2 (E_link hm.1)
    · rw [if_pos (fun h => hp h.2)]
      exact ev_bind (Add_bad l a b (by have := h.1; omega) (fun h => hp h.2)) (ev_neg (by decide) (ev_now rfl))
  · rw [if_neg hm, if_pos (fun h => hm h.1)]
    exact ev_neg (by decide) (ev_now rfl)
theorem Unlink_ev (l : List Ed) (lv : List Int) (a b : Int) (h : l.length ≤ 999 ∧ ∀ e ∈ l, (Lit.int .i64 e.f0).wf = true ∧ (Lit.int .i64 e.f1).wf = true) (hv : smI lv) (ha : (Lit.int .i64 a).wf = true) (hb : (Lit.int .i64 b).wf = true) : Ev (fun k => reach_Unlink.f k l lv a b) (UnlinkS l lv a b) := by
  unfold reach_Unlink.f UnlinkS
  have hs : smE l := ⟨by have := h.1; omega, h.2⟩
  refine ev_bind (Check_ev l lv hs) ?_
  by_cases hm : MayG l lv
  · rw [if_pos hm]
    refine ev_pos rfl ?_
    by_cases hp : okP a b
    · rw [if_neg (fun h => h ⟨hm, hp⟩)]
      refine ev_bind (Drop_ev l a b (by have := h.1; omega) ⟨hm.1, hp⟩) ?_
      by_cases h4 : manyE l a b = 0
      · rw [if_pos h4, if_pos h4]
        exact ev_neg (by decide) (ev_now rfl)
      · rw [if_neg h4, if_neg h4]
        have hbnd := manyE_bound l a b hm.1.1
        have hmax : manyE l a b - 1 ≤ 1099511627776 := by
          rcases place l hm.1.2 a b with ⟨_, A, G, rfl, _, hA, hG⟩ | ⟨_, A, n, G, rfl, _, hA, hG⟩
          · rw [many_miss hA hG]
            decide
          · rw [many_hit hA hG]
            have := hm.1.1 ⟨a, b, n⟩ (by simp)
            unfold okE at this
            simp only at this
            omega
        have hmay := withE_may (n := manyE l a b - 1) hm.1 hp.1 hp.2 hmax
        refine ev_pos rfl (ev_bind (Many_ev _ a b (by have := withE_len l a b (manyE l a b - 1); have := h.1; simp only; omega) ⟨hmay, hp⟩) ?_)
        refine ev_pos ⟨bndE_of (smE_with h ha hb), bndI_of hv, bnd2 ha hb⟩ (ev_const ?_)
        exact unlinkF_eq hm.2 (E_unlink hm.1 h4) (E_many hmay.1) rfl
    · rw [if_pos (fun h => hp h.2)]
      exact ev_bind (Drop_bad l a b (by have := h.1; omega) (fun h => hp h.2)) (ev_neg (by decide) (ev_now rfl))
  · rw [if_neg hm, if_pos (fun h => hm h.1)]
    exact ev_neg (by decide) (ev_now rfl)
end Go.Proofs.Ytpiamehededilaa.Q

/-
  What the document's answers of layer 15 come to: Live, May; the chapter's examples.
-/
namespace Go.Proofs.Ytpiamehededilaa.Q
open Go.RowKit Go.Proofs.Ytpiamehededilaa.P Go.Proofs.YtpiamehededilaaB Go.Proofs.YtpiamehededilaaW.PrintWords Go.Proofs.YtpiamehededilaaW.PrintLast Go.Proofs.YtpiamehededilaaW.PrintMore
set_option linter.unusedSimpArgs false
set_option linter.unusedVariables false
theorem awake_ev : Ev (fun k => graftwoodlaw15_awake.f k) true := Ev.of graftwoodlaw15_awake.mono (k := 12) (by decide +kernel)
/-! ### Few -/
def few11 (l : List Ed) : List Ed := l.take 40
def few15 (l : List Int) : List Int := l.take 60
end Go.Proofs.Ytpiamehededilaa.Q

/-
  What reach.Same, and the document's Next and Back, come to.
-/
namespace Go.Proofs.Ytpiamehededilaa.Q
open Go.RowKit Go.Proofs.Ytpiamehededilaa.P Go.Proofs.YtpiamehededilaaB Go.Proofs.YtpiamehededilaaW.PrintWords Go.Proofs.YtpiamehededilaaW.PrintLast Go.Proofs.YtpiamehededilaaW.PrintMore
set_option linter.unusedSimpArgs false
set_option linter.unusedVariables false
theorem eqE_loop (a b : List Ed) (hab : a.length = b.length) (hl : a.length ≤ 1000000) (d : Nat) : ∀ i : Nat, i + d = a.length → Ev (fun k => api_Edge_49.l0 k a b (a.length : Int) i) (decide (a.drop i = b.drop i)) := by
  induction d with
  | zero =>
    intro i hi
    refine ev_step (fun k => by rw [api_Edge_49.l0]) ?_
    exact ev_neg (by omega) (ev_now (by rw [drop_nil a i (by omega), drop_nil b i (by omega)]; rfl))
  | succ d ih =>
    intro i hi
    refine ev_step (fun k => by rw [api_Edge_49.l0]) ?_
    rw [rdE_at a i (by omega), rdE_at b i (by omega), w_succ i (by omega), List.drop_eq_getElem_cons (by omega), List.drop_eq_getElem_cons (show i < b.length by omega)]
    refine ev_pos (by omega) (ev_pos (by omega) (ev_pos (by omega) (ev_pos (by omega) ?_)))
    by_cases h : a[i] = b[i]
    · rw [dec_cons _ _ _ _ h]
      exact ev_neg (by rw [h]; simp) (ih (i + 1) (by omega))
    · refine ev_pos ?_ (ev_now (dec_cons_ne _ _ _ _ h).symm)
      simp only [Bool.or_eq_true, Bool.not_eq_true', beq_eq_false_iff_ne]
      refine Classical.byContradiction fun hn => h ?_
      simp only [not_or, Decidable.not_not, ne_eq] at hn
      exact ed_ext hn.1 hn.2.1 hn.2.2
theorem eqE_ev (a b : List Ed) (hl : a.length ≤ 1000000) : Ev (fun k => api_Edge_49.f k a b) (decide (a = b)) := by
  unfold api_Edge_49.f
  refine ev_ite (fun h => eqE_loop a b (by omega) hl a.length 0 (by omega)) (fun h => ev_now ?_)
  rw [eq_comm, decide_eq_false_iff_not]
  intro e
  exact h (by rw [e])
theorem Same_ev (a c : List Ed) (b d : List Int) (hl : a.length ≤ 1000000) (hb : b.length ≤ 1000000) : Ev (fun k => reach_Same.f k a b c d) (decide (a = c ∧ b = d)) := by
  unfold reach_Same.f
  refine ev_bind (eqE_ev a c hl) ?_
  by_cases h : a = c
  · rw [decide_eq_true h, show decide (a = c ∧ b = d) = decide (b = d) by simp [h]]
    exact ev_pos rfl (ev_last (equal_ev b d hb))
  · rw [decide_eq_false h]
    exact ev_neg (by decide) (ev_now (by simp [h]))
end Go.Proofs.Ytpiamehededilaa.Q

/- The pure statement of ReachGoes. MINE -/
namespace Go.Proofs.Ytpiamehededilaa.Pure
open Go.RowKit Go.Proofs.Ytpiamehededilaa.P Go.Proofs.Ytpiamehededilaa.Q Go.Proofs.YtpiamehededilaaB Go.Proofs.YtpiamehededilaaW.PrintWords Go.Proofs.YtpiamehededilaaW.PrintLast Go.Proofs.YtpiamehededilaaW.PrintMore
theorem LinkS_ok {l : List Ed} {lv : List Int} {a b n : Int} (hm : MayE l) (hv : lv = liveF l) (hp : okP a b) (hn : manyE l a b = n) (h4 : n ≠ 1099511627776) : LinkS l lv a b = (withE l ⟨a, b, n + 1⟩, liveF (withE l ⟨a, b, n + 1⟩), (liveF (withE l ⟨a, b, n + 1⟩)).filter (fun x => decide (x ∉ lv)), 0) := by
  subst hn
  unfold LinkS
  rw [if_neg (fun h => h ⟨⟨hm, hv⟩, hp⟩), if_neg h4]
theorem UnlinkS_ok {l : List Ed} {lv : List Int} {a b n : Int} (hm : MayE l) (hv : lv = liveF l) (hp : okP a b) (hn : manyE l a b = n) (h4 : n ≠ 0) : UnlinkS l lv a b = (withE l ⟨a, b, n - 1⟩, liveF (withE l ⟨a, b, n - 1⟩), lv.filter (fun x => decide (x ∉ liveF (withE l ⟨a, b, n - 1⟩))), 0) := by
  subst hn
  unfold UnlinkS
  rw [if_neg (fun h => h ⟨⟨hm, hv⟩, hp⟩), if_neg h4]
theorem wf_small {x : Int} (h : -1 ≤ x) (h2 : x ≤ 1000) : (Lit.int .i64 x).wf = true := by
  have : (-9223372036854775808 ≤ x ∧ x ≤ 9223372036854775807) := by omega
  simpa [Lit.wf, IntKind.min, IntKind.max, IntKind.signed, IntKind.bits] using this
def sm (l : List Ed) : Prop := ∀ e ∈ l, (-1 ≤ e.f0 ∧ e.f0 ≤ 12) ∧ -1 ≤ e.f1 ∧ e.f1 ≤ 12
theorem sm_wf {l : List Ed} (h : sm l) : ∀ e ∈ l, (Lit.int .i64 e.f0).wf = true ∧ (Lit.int .i64 e.f1).wf = true := fun e he => by
  have := h e he
  exact ⟨wf_small this.1.1 (by omega), wf_small this.2.1 (by omega)⟩
theorem sm_with {l : List Ed} {a b n : Int} (h : sm l) (ha : -1 ≤ a ∧ a ≤ 12) (hb : -1 ≤ b ∧ b ≤ 12) : sm (withE l ⟨a, b, n⟩) := fun e he => by
  rcases mem_withE.1 he with ⟨h1, _⟩ | ⟨_, rfl⟩
  · exact h e h1
  · exact ⟨ha, hb⟩
theorem live_sm {l : List Ed} (h : sm l) (hl : l.length ≤ 100) : smI (liveF l) := by
  refine ⟨by have := liveF_len l; omega, fun x hx => ?_⟩
  obtain ⟨p, _, e, he, _, rfl⟩ := R.into (mem_liveF.1 hx)
  exact (sm_wf h e he).2
theorem filter_none {a b : List Int} (h : ∀ x ∈ a, x ∈ b) : a.filter (fun x => decide (x ∉ b)) = [] := List.filter_eq_nil_iff.2 (fun x hx => by simp [h x hx])
theorem many_le {l : List Ed} {a b B : Int} (h : MayE l) (hB : 0 ≤ B) (hb : ∀ e ∈ l, e.f2 ≤ B) : manyE l a b ≤ B := by
  rcases place l h.2 a b with ⟨_, A, G, rfl, _, hA, hG⟩ | ⟨_, A, m, G, rfl, _, hA, hG⟩
  · rw [many_miss hA hG]
    exact hB
  · rw [many_hit hA hG]
    exact hb ⟨a, b, m⟩ (by simp)
/-- Between the pairs. -/
def GI (g : List Ed) (i : Nat) : Prop := MayE g ∧ sm g ∧ g.length ≤ i ∧ ∀ e ∈ g, e.f2 ≤ (i : Int)
theorem GI_with {g : List Ed} {i : Nat} {a b n : Int} (h : GI g i) (hi : i ≤ 40) (ha : -1 ≤ a ∧ a ≤ 5) (hb : 0 ≤ b ∧ b ≤ 5) (hn : n ≤ (i : Int) + 1) : GI (withE g ⟨a, b, n⟩) (i + 1) := by
  obtain ⟨h1, h2, h3, h4⟩ := h
  refine ⟨withE_may h1 ha.1 hb.1 (by omega), sm_with h2 ⟨by omega, by omega⟩ ⟨by omega, by omega⟩, by have := withE_len g a b n; omega, fun e he => ?_⟩
  rcases mem_withE.1 he with ⟨h5, _⟩ | ⟨_, rfl⟩
  · have := h4 e h5
    push_cast
    omega
  · push_cast
    exact hn
theorem GI_up {g : List Ed} {i : Nat} (h : GI g i) : GI g (i + 1) := ⟨h.1, h.2.1, by have := h.2.2.1; omega, fun e he => by have := h.2.2.2 e he; push_cast; omega⟩
theorem Goes_end (l : List Int) (i : Nat) (was is d : List Int) (g : List Ed) (lv : List Int) (hw : was.length ≤ 1000) (hi : is.length ≤ 1000) (hd : d = is.filter (fun x => decide (x ∉ was))) (hsub : ∀ x ∈ was, x ∈ is) (next : Ev (fun k => IRG.l0 k l (wrap64 ((i : Int) + 1)) g lv) true) : Ev (fun k => IRG.j5 k l i d was is g lv) true := by
  refine ev_step (fun k => by rw [IRG.j5]) ?_
  subst hd
  refine ev_bind (minus_ev is was (by omega) (by omega)) (ev_bind (ints_ev _ _ (Nat.le_trans (List.length_filter_le _ _) (by omega))) ?_)
  rw [decide_eq_true rfl]
  refine ev_pos rfl (ev_bind (minus_ev was is (by omega) (by omega)) ?_)
  rw [filter_none hsub]
  exact ev_neg (by decide) next
theorem Goes_mid (l : List Int) (i : Nat) (on : Bool) (d : List Int) (g g2 : List Ed) (hm : MayE g2) (hs : sm g2) (h2 : g2.length ≤ 100) (next : Ev (fun k => IRG.j4 k l i on d false g (liveF g) g2 (liveF g2)) true) : Ev (fun k => IRG.j2 k l i on d 0 g (liveF g) g2 (liveF g2)) true := by
  refine ev_step (fun k => by rw [IRG.j2]) ?_
  refine ev_neg (by decide) (ev_step (fun k => by rw [IRG.j3]) (ev_neg (by decide) (ev_bind (Of_ev g2 ⟨by omega, sm_wf hs⟩) ?_)))
  rw [if_pos hm]
  have hlf := liveF_len g2
  refine ev_pos rfl (ev_pos rfl (ev_bind (Same_ev g2 g2 (liveF g2) (liveF g2) (by omega) (by omega)) ?_))
  rw [decide_eq_true ⟨rfl, rfl⟩]
  exact next
theorem Goes_skip (l : List Int) (i : Nat) (d : List Int) (c : Int) (x : Bool) (hx : x = true) (g : List Ed) (lv : List Int) (next : Ev (fun k => IRG.l0 k l (wrap64 ((i : Int) + 1)) g lv) true) : Ev (fun k => IRG.j3 k l i false d c x g lv g lv) true := by
  refine ev_step (fun k => by rw [IRG.j3]) (ev_pos hx ?_)
  exact next
theorem Goes_loop (l : List Int) (hw : ∀ x ∈ l, (Lit.int .u16 x).wf = true) (d : Nat) : ∀ (i : Nat) (g : List Ed), i + d = min l.length 40 → GI g i → Ev (fun k => IRG.l0 k l i g (liveF g)) true := by
  induction d with
  | zero =>
    intro i g hi hg
    refine ev_step (fun k => by rw [IRG.l0]) ?_
    have fin : Ev (fun k => IRG.j1 k l i false g (liveF g)) true := by
      refine ev_step (fun k => by rw [IRG.j1]) ?_
      exact ev_neg (by decide) (ev_last awake_ev)
    refine ev_ite (fun h => ?_) (fun _ => fin)
    rw [decide_eq_false (by omega)]
    exact fin
  | succ d ih =>
    intro i g hi hg
    have hil : i < l.length := by omega
    have hi40 : i < 40 := by omega
    have next : ∀ g2, GI g2 (i + 1) → Ev (fun k => IRG.l0 k l (wrap64 ((i : Int) + 1)) g2 (liveF g2)) true := fun g2 h2 => by
      rw [w_succ i (by omega)]
      exact ih (i + 1) g2 (by omega) h2
    refine ev_step (fun k => by rw [IRG.l0]) (ev_pos (by omega) ?_)
    rw [decide_eq_true (by omega)]
    refine ev_step (fun k => by rw [IRG.j1]) (ev_pos rfl (ev_pos (by omega) (ev_pos (by omega) ?_)))
    rw [rdI_at l i hil]
    have hx : 0 ≤ l[i] ∧ l[i] ≤ 65535 := by simpa [Lit.wf, IntKind.min, IntKind.max, IntKind.signed, IntKind.bits] using hw _ (List.getElem_mem hil)
    generalize l[i] = x at hx ⊢
    have q0 : 0 ≤ Int.tmod (x / 256) 7 := Int.tmod_nonneg 7 (Int.ediv_nonneg hx.1 (by decide))
    have q1 : Int.tmod (x / 256) 7 < 7 := Int.tmod_lt_of_pos _ (by decide)
    have q2 : 0 ≤ Int.tmod x 6 := Int.tmod_nonneg 6 hx.1
    have q3 : Int.tmod x 6 < 6 := Int.tmod_lt_of_pos _ (by decide)
    rw [w_id (i := Int.tmod (x / 256) 7) (by omega) (by omega), w_id (i := Int.tmod (x / 256) 7 - 1) (by omega) (by omega), w_id (i := Int.tmod x 6) (by omega) (by omega)]
    obtain ⟨a, ha⟩ : ∃ a, a = Int.tmod (x / 256) 7 - 1 := ⟨_, rfl⟩
    obtain ⟨b, hb⟩ : ∃ b, b = Int.tmod x 6 := ⟨_, rfl⟩
    rw [← ha, ← hb]
    have ra : -1 ≤ a ∧ a ≤ 5 := by omega
    have rb : 0 ≤ b ∧ b ≤ 5 := by omega
    clear ha hb q0 q1 q2 q3
    obtain ⟨hm, hs, hl, hf⟩ := hg
    have hle := many_le (a := a) (b := b) hm (show (0 : Int) ≤ (i : Int) by omega) hf
    have hge := manyE_bound g a b hm.1
    have hp : okP a b := ⟨ra.1, rb.1⟩
    have wa : (Lit.int .i64 a).wf = true := wf_small ra.1 (by omega)
    have wb : (Lit.int .i64 b).wf = true := wf_small (by omega) (by omega)
    have hlf := liveF_len g
    have k1 := Link_ev g (liveF g) a b ⟨by omega, sm_wf hs⟩ (live_sm hs (by omega)) wa wb
    rw [LinkS_ok hm rfl hp rfl (by omega)] at k1
    refine ev_bind k1 ?_
    by_cases hon : Int.tmod (x / 32) 3 > 0
    · refine ev_pos hon ?_
      rw [decide_eq_true hon]
      have h2 := GI_with (n := manyE g a b + 1) ⟨hm, hs, hl, hf⟩ (by omega) ra rb (by omega)
      have hl2 := liveF_len (withE g ⟨a, b, manyE g a b + 1⟩)
      refine Goes_mid l i true _ g (withE g ⟨a, b, manyE g a b + 1⟩) h2.1 h2.2.1 (show (withE g ⟨a, b, manyE g a b + 1⟩).length ≤ 100 by have := h2.2.2.1; omega) ?_
      refine ev_step (fun k => by rw [IRG.j4]) (ev_neg (by decide) (ev_pos rfl ?_))
      refine Goes_end l i (liveF g) (liveF (withE g ⟨a, b, manyE g a b + 1⟩)) _ _ _ (by omega) (by have := h2.2.2.1; omega) rfl (fun z hz => ?_) (next _ h2)
      exact mem_liveF.2 (R.mono (fun p y hpy => (E_link hm p y).2 (.inl hpy)) (mem_liveF.1 hz))
    · refine ev_neg hon ?_
      rw [decide_eq_false hon]
      have k2 := Unlink_ev g (liveF g) a b ⟨by omega, sm_wf hs⟩ (live_sm hs (by omega)) wa wb
      by_cases h0 : manyE g a b = 0
      · have e2 : UnlinkS g (liveF g) a b = (g, liveF g, [], 2) := by
          unfold UnlinkS
          rw [if_neg (fun h => h ⟨⟨hm, rfl⟩, hp⟩), if_pos h0]
        rw [e2] at k2
        refine ev_bind k2 ?_
        show Ev (fun k => IRG.j2 k l i false [] 2 g (liveF g) g (liveF g)) true
        refine ev_step (fun k => by rw [IRG.j2]) (ev_pos rfl ?_)
        exact Goes_skip l i [] 2 _ rfl g (liveF g) (next g (GI_up ⟨hm, hs, hl, hf⟩))
      · rw [UnlinkS_ok hm rfl hp rfl h0] at k2
        refine ev_bind k2 ?_
        have h2 := GI_with (n := manyE g a b - 1) ⟨hm, hs, hl, hf⟩ (by omega) ra rb (by omega)
        have hl2 := liveF_len (withE g ⟨a, b, manyE g a b - 1⟩)
        refine Goes_mid l i false _ g (withE g ⟨a, b, manyE g a b - 1⟩) h2.1 h2.2.1 (show (withE g ⟨a, b, manyE g a b - 1⟩).length ≤ 100 by have := h2.2.2.1; omega) ?_
        refine ev_step (fun k => by rw [IRG.j4]) (ev_neg (by decide) (ev_neg (by decide) ?_))
        refine Goes_end l i (liveF (withE g ⟨a, b, manyE g a b - 1⟩)) (liveF g) _ _ _ (by have := h2.2.2.1; omega) (by omega) rfl (fun z hz => ?_) (next _ h2)
        exact mem_liveF.2 (R.mono (fun p y hpy => (E_unlink hm h0 p y).2 (.inl hpy)) (mem_liveF.1 hz))
theorem ReachGoes : graftwoodlaw15_ReachGoes.Goal := by
  intro x0 h0
  refine ev_rounds ?_
  unfold graftwoodlaw15_ReachGoes.f
  have e : ([] : List Int) = liveF [] := by decide
  rw [e]
  exact Goes_loop x0 h0.2 _ 0 [] (Nat.zero_add _) ⟨⟨(fun e h => by cases h), List.Pairwise.nil⟩, (fun e h => by cases h), by simp, (fun e h => by cases h)⟩
end Go.Proofs.Ytpiamehededilaa.Pure
