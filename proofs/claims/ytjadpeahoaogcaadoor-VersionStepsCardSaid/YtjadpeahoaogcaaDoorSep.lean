/-
  Plain lemmas: rows that a statement makes in two chains of appends: no two of them share a block. (VersionSteps)
-/
import Derived.Test.YtjadpeahoaogcaaDoorWWords
import Derived.Test.YtjadpeahoaogcaaDoorWMore
namespace Go.Proofs.YtjadpeahoaogcaaDoor.P
open Go.RowKit Go.Proofs.YtjadpeahoaogcaaDoorW.PrintWords
def Ap_ (x y : Value) : Prop := ∀ k, x.ownBlock = some k → some k ≠ y.ownBlock
def Lt_ (v : Value) (w : World) : Prop := ∀ k, v.ownBlock = some k → k < w.heap.size
theorem Ap_.symm {x y : Value} (h : Ap_ x y) : Ap_ y x := fun k hk e => h k e.symm hk.symm
/-- a1, a2, a3: one chain's row as it grows; d: its row of one; b1, b2, b3 and e: the other's. -/
structure Sep_ (w : World) (a1 a2 a3 d b1 b2 b3 e : Value) : Prop where
  l : ∀ x, x ∈ [a1, a2, a3, d, b1, b2, b3, e] → Lt_ x w
  ad : ∀ x, x ∈ [a1, a2, a3] → ∀ y, y ∈ [d, b1, b2, b3, e] → Ap_ x y
  bd : ∀ x, x ∈ [b1, b2, b3] → ∀ y, y ∈ [d, e] → Ap_ x y
section
variable {w w' : World} {a1 a2 a3 d b1 b2 b3 e v x : Value}
theorem Sep_.init (w : World) : Sep_ w (.bool false) (.bool false) (.bool false) (.bool false) (.bool false) (.bool false) (.bool false) (.bool false) := by
  have h1 : Lt_ (.bool false) w := fun k h => by cases h
  have h2 : Ap_ (.bool false) (.bool false) := fun k h => by cases h
  refine ⟨fun x hx => ?_, fun x hx y hy => ?_, fun x hx y hy => ?_⟩ <;> simp only [List.mem_cons, List.not_mem_nil, or_false, or_self] at * <;> subst_vars <;> assumption
theorem Sep_.mono (h : Sep_ w a1 a2 a3 d b1 b2 b3 e) (hs : w.heap.size ≤ w'.heap.size) : Sep_ w' a1 a2 a3 d b1 b2 b3 e :=
  ⟨fun x hx k hk => Nat.lt_of_lt_of_le (h.l x hx k hk) hs, h.ad, h.bd⟩
theorem Sep_.set (h : Sep_ w a1 a2 a3 d b1 b2 b3 e) (p : Addr) (u : Value) : Sep_ (w.setCell p u) a1 a2 a3 d b1 b2 b3 e := h.mono (by simp [World.setCell])
/-- A row that is new since w, or whose block is that of x. -/
def Like_ (w : World) (v x : Value) : Prop := v.ownBlock = x.ownBlock ∨ ∀ k, v.ownBlock = some k → w.heap.size ≤ k
theorem like_new (h : ∀ k, v.ownBlock = some k → w.heap.size ≤ k) : Like_ w v x := .inr h
theorem like_at (h : v.ownBlock = x.ownBlock ∨ ∃ b, v.ownBlock = some b ∧ w.heap.size ≤ b) : Like_ w v x := by
  rcases h with h | ⟨b, hb, hl⟩
  · exact .inl h
  · exact .inr fun k hk => by rw [hb] at hk; cases hk; exact hl
theorem ap_like (hv : Like_ w v x) {y : Value} (h : Ap_ x y) (hy : Lt_ y w) : Ap_ v y := by
  intro k hk
  rcases hv with hv | hv
  · exact h k (hv ▸ hk)
  · intro e
    have := hy k e.symm
    have := hv k hk
    omega
theorem Sep_.sa1 (h : Sep_ w a1 a2 a3 d b1 b2 b3 e) (hs : w.heap.size ≤ w'.heap.size) (hl : Lt_ v w') (hv : Like_ w v a1) : Sep_ w' v a2 a3 d b1 b2 b3 e := by
  have hm := h.mono hs
  refine ⟨fun x hx => ?_, fun x hx y hy => ?_, h.bd⟩
  · rcases List.mem_cons.1 hx with rfl | hx
    · exact hl
    · exact hm.l x (List.mem_cons_of_mem _ hx)
  · rcases List.mem_cons.1 hx with rfl | hx
    · exact ap_like hv (h.ad a1 (by simp) y hy) (h.l y (by simp only [List.mem_cons] at hy ⊢; simp only [hy, or_true]))
    · exact h.ad x (List.mem_cons_of_mem _ hx) y hy
/-- The rows of a chain may stand in any order. -/
theorem Sep_.turnA (h : Sep_ w a1 a2 a3 d b1 b2 b3 e) : Sep_ w a2 a3 a1 d b1 b2 b3 e :=
  ⟨fun x hx => h.l x (by simp only [List.mem_cons, List.not_mem_nil, or_false] at hx ⊢; rcases hx with h | h | h | h | h | h | h | h <;> simp [h]), fun x hx => h.ad x (by simp only [List.mem_cons, List.not_mem_nil, or_false] at hx ⊢; rcases hx with h | h | h <;> simp [h]), h.bd⟩
theorem Sep_.swap (h : Sep_ w a1 a2 a3 d b1 b2 b3 e) : Sep_ w b1 b2 b3 e a1 a2 a3 d := by
  refine ⟨fun x hx => h.l x (by simp only [List.mem_cons, List.not_mem_nil, or_false] at hx ⊢; rcases hx with h | h | h | h | h | h | h | h <;> simp [h]), fun x hx y hy => ?_, fun x hx y hy => ?_⟩
  · simp only [List.mem_cons, List.not_mem_nil, or_false] at hy
    rcases hy with rfl | rfl | rfl | rfl | rfl
    · exact h.bd x hx y (by simp)
    · exact (h.ad y (by simp) x (by simp only [List.mem_cons, List.not_mem_nil, or_false] at hx ⊢; rcases hx with h | h | h <;> simp [h])).symm
    · exact (h.ad y (by simp) x (by simp only [List.mem_cons, List.not_mem_nil, or_false] at hx ⊢; rcases hx with h | h | h <;> simp [h])).symm
    · exact (h.ad y (by simp) x (by simp only [List.mem_cons, List.not_mem_nil, or_false] at hx ⊢; rcases hx with h | h | h <;> simp [h])).symm
    · exact h.bd x hx y (by simp)
  · exact h.ad x hx y (by simp only [List.mem_cons, List.not_mem_nil, or_false] at hy ⊢; rcases hy with h | h <;> simp [h])
theorem Sep_.sa2 (h : Sep_ w a1 a2 a3 d b1 b2 b3 e) (hs : w.heap.size ≤ w'.heap.size) (hl : Lt_ v w') (hv : Like_ w v a1) : Sep_ w' a1 v a3 d b1 b2 b3 e := by
  have h1 : Sep_ w a1 a1 a3 d b1 b2 b3 e := ⟨fun x hx => h.l x (by simp only [List.mem_cons, List.not_mem_nil, or_false] at hx ⊢; rcases hx with h | h | h | h | h | h | h | h <;> simp [h]), fun x hx => h.ad x (by simp only [List.mem_cons, List.not_mem_nil, or_false] at hx ⊢; rcases hx with h | h | h <;> simp [h]), h.bd⟩
  exact (Sep_.sa1 h1.turnA hs hl hv).turnA.turnA
theorem Sep_.sa3 (h : Sep_ w a1 a2 a3 d b1 b2 b3 e) (hs : w.heap.size ≤ w'.heap.size) (hl : Lt_ v w') (hv : Like_ w v a2) : Sep_ w' a1 a2 v d b1 b2 b3 e := (Sep_.sa2 h.turnA hs hl hv).turnA.turnA
theorem Sep_.sb1 (h : Sep_ w a1 a2 a3 d b1 b2 b3 e) (hs : w.heap.size ≤ w'.heap.size) (hl : Lt_ v w') (hv : Like_ w v b1) : Sep_ w' a1 a2 a3 d v b2 b3 e := (Sep_.sa1 h.swap hs hl hv).swap
theorem Sep_.sb2 (h : Sep_ w a1 a2 a3 d b1 b2 b3 e) (hs : w.heap.size ≤ w'.heap.size) (hl : Lt_ v w') (hv : Like_ w v b1) : Sep_ w' a1 a2 a3 d b1 v b3 e := (Sep_.sa2 h.swap hs hl hv).swap
theorem Sep_.sb3 (h : Sep_ w a1 a2 a3 d b1 b2 b3 e) (hs : w.heap.size ≤ w'.heap.size) (hl : Lt_ v w') (hv : Like_ w v b2) : Sep_ w' a1 a2 a3 d b1 b2 v e := (Sep_.sa3 h.swap hs hl hv).swap
theorem Sep_.sd (h : Sep_ w a1 a2 a3 d b1 b2 b3 e) (hs : w.heap.size ≤ w'.heap.size) (hl : Lt_ v w') (hv : ∀ k, v.ownBlock = some k → w.heap.size ≤ k) : Sep_ w' a1 a2 a3 v b1 b2 b3 e := by
  have hm := h.mono hs
  have hn : ∀ y, Lt_ y w → Ap_ y v := fun y hy => (ap_like (like_new (x := .bool false) hv) (fun k h => by cases h) hy).symm
  refine ⟨fun x hx => ?_, fun x hx y hy => ?_, fun x hx y hy => ?_⟩
  · simp only [List.mem_cons, List.not_mem_nil, or_false] at hx
    rcases hx with h | h | h | rfl | h | h | h | h
    case inr.inr.inr.inl => exact hl
    all_goals exact hm.l x (by simp [h])
  · rcases List.mem_cons.1 hy with rfl | hy
    · exact hn x (h.l x (by simp only [List.mem_cons, List.not_mem_nil, or_false] at hx ⊢; rcases hx with h | h | h <;> simp [h]))
    · exact h.ad x hx y (List.mem_cons_of_mem _ hy)
  · rcases List.mem_cons.1 hy with rfl | hy
    · exact hn x (h.l x (by simp only [List.mem_cons, List.not_mem_nil, or_false] at hx ⊢; rcases hx with h | h | h <;> simp [h]))
    · exact h.bd x hx y (List.mem_cons_of_mem _ hy)
theorem Sep_.se (h : Sep_ w a1 a2 a3 d b1 b2 b3 e) (hs : w.heap.size ≤ w'.heap.size) (hl : Lt_ v w') (hv : ∀ k, v.ownBlock = some k → w.heap.size ≤ k) : Sep_ w' a1 a2 a3 d b1 b2 b3 v := (Sep_.sd h.swap hs hl hv).swap
end
theorem R_sepO {en base : Nat} {W : World} {ok : Nat → Prop} {u v : Value} {xs : List ByteArray} (h : Kd.string.R en W base ok u xs) (hn : Ap_ v u) : Kd.string.R en W base (fun k => ok k ∧ some k ≠ v.ownBlock) u xs :=
  ⟨fun k hk => ⟨h.1 k hk, fun e => hn k e.symm hk.symm⟩, h.2⟩
end Go.Proofs.YtjadpeahoaogcaaDoor.P
