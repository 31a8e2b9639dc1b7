/-
  Plain lemmas: steps of the printed walks, each in one word (default arguments close what is always closed alike).
-/
import Derived.Test.YtknmfmedklfepaaGreatDoorThen
namespace Go.Proofs.YtknmfmedklfepaaGreatDoor.P
open Go.RowKit Go.Proofs.YtknmfmedklfepaaGreatDoorW.PrintWords Go.Proofs.YtknmfmedklfepaaGreatDoorW.PrintLast Go.Proofs.YtknmfmedklfepaaGreatDoorW.PrintMore
theorem aot {p : Prop} (h : Aside0 p) : p := h.out
section
variable {α β : Type} {r : β} {A B : Option β} {c : Prop}
theorem bnd {x : Option α} {f : α → Option β} (h : x.bind f = some r) : ∃ a, Aside0 (x = some a) ∧ f a = some r := by
  obtain ⟨a, h1, h2⟩ := Option.bind_eq_some_iff.mp h
  exact ⟨a, ⟨h1⟩, h2⟩
theorem ifB {t : Bool} (h : (if t = true then A else B) = some r) : (t = true ∧ A = some r) ∨ (t = false ∧ B = some r) := by
  cases t
  · exact Or.inr ⟨rfl, by rw [if_neg (by decide)] at h; exact h⟩
  · exact Or.inl ⟨rfl, by rw [if_pos rfl] at h; exact h⟩
theorem ifP [Decidable c] (h : (if c then A else B) = some r) : (c ∧ A = some r) ∨ (¬ c ∧ B = some r) := by
  by_cases hc : c
  · exact Or.inl ⟨hc, by rw [if_pos hc] at h; exact h⟩
  · exact Or.inr ⟨hc, by rw [if_neg hc] at h; exact h⟩
theorem ifN [Decidable c] (h : (if c then A else none) = some r) : c ∧ A = some r := by
  rcases ifP h with h | ⟨_, h⟩
  · exact h
  · exact absurd h (by simp)
theorem ifT [Decidable c] {A : Option Bool} {r : Bool} (h : (if c then A else some false) = some r) (hr : r = true) : c ∧ A = some r := by
  rcases ifP h with h | ⟨_, h⟩
  · exact h
  · exact absurd ((Option.some.inj h).trans hr) (by decide)
end
theorem prB {α β : Type} {a c : α} {b d : β} (h : some (a, b) = some (c, d)) : a = c ∧ b = d := by simpa using h
theorem rfF {p : Prop} (h : p := by first | rfl | (simp [errW_none, errW_some] <;> rfl) | (simp [*, errW_none, errW_some] <;> rfl)) : p := h
theorem rfG {p : Prop} (h : p := by first | rfl | (simp; done) | (simp [*]; done)) : p := h
theorem rfO {p : Prop} (h : p := by first | omega | exact Nat.le_refl _) : p := h
theorem rfA {p : Prop} (h : p := by first | (with_reducible assumption) | assumption) : p := h
theorem rfD {p : Prop} (h : p := by repeat (first | exact Drawn0.refl _ | apply Drawn0.step)) : p := h
theorem rfH {p : Prop} (h : p := by repeat (first | (with_reducible first | exact HB.out | apply pA | apply pN | apply pD | refine eU ?_ (by assumption)) | exact HB.out)) : p := h
theorem rfM {p : Prop} (h : p := by first | exact Kd.R_nil _ _ _ _ _ | exact Kd.N_nil _ _ _ _ _ | exact Kd.V_nil _ _ _ _ _ | exact Kd.Q_nil _ _ _ _ _ | exact Kd.S_nil _ _ _ _ _) : p := h
theorem rfQ {p : Prop} (h : p := by simp only [putAll, Act.put, List.setIfInBounds_toArray, List.set_cons_zero, List.set_cons_succ]) : p := h
theorem rfK {p : Prop} (h : p := by kernel_rfl) : p := h
/-- What is below now, as HB told it, whatever was drawn, laid and written since. -/
theorem eTx {W W0 w : World} (_h0 : Below w.heap.size w W0) (h : Below w.heap.size w W := by repeat (first | (with_reducible first | exact HB.out | apply pA | apply pN | apply pD | refine eU ?_ (by assumption)) | exact HB.out | exact eT HB.out)) : Below w.heap.size w W := h
theorem sTx {W W0 w w1 : World} (_h0 : Below w.heap.size w W0) (hb : Below W.heap.size W w1) (h : Below w.heap.size w W := by repeat (first | (with_reducible first | exact HB.out | apply pA | apply pN | apply pD | refine eU ?_ (by assumption)) | exact HB.out | exact eT HB.out)) : Below w.heap.size w w1 := below_step h hb
theorem gTx {W W0 w : World} {g : Nat} (hg : g = W.heap.size) (_h0 : Below w.heap.size w W0) (h : Below w.heap.size w W := by repeat (first | (with_reducible first | exact HB.out | apply pA | apply pN | apply pD | refine eU ?_ (by assumption)) | exact HB.out | exact eT HB.out)) : w.heap.size ≤ g := by rw [hg]; exact below_size h
/-- A block that has been written in places, and not: its cells. -/
theorem bfr {w : World} {g g' j t : Nat} {cs : Array Value} {u : Value} (h : w.heap[g]? = some (.cells cs t (0, 0))) (hn : Aside0 (g ≠ g')) : (w.setCell ⟨g', j, none⟩ u).heap[g]? = some (.cells cs t (0, 0)) := blk_far (p := ⟨g', j, none⟩) h hn.out u
theorem kBk {p : Prop} (h : p := by repeat (first | (with_reducible exact aot (by assumption)) | (with_reducible assumption) | (with_reducible first | apply bn | apply bd | apply ba | apply blk_put | apply bfr) | rfl)) : p := h
theorem smI {α : Type} {x y : α} (h : some x = some y) : x = y := Option.some.inj h
/-- What is held, when blocks apart were written. -/
theorem kCl {p : Prop} (h : p := by repeat' (first | (with_reducible apply And.intro) | (with_reducible first | exact hHeld | exact hHeld.1 | exact hHeld.2 | exact hHeld.2.1 | exact hHeld.2.2 | exact hHeld.2.2.1 | exact hHeld.2.2.2 | exact hHeld.2.2.2.1 | exact hHeld.2.2.2.2 | exact hHeld.2.2.2.2.1 | exact hHeld.2.2.2.2.2 | exact hHeld.2.2.2.2.2.1 | exact hHeld.2.2.2.2.2.2 | exact hHeld.2.2.2.2.2.2.1 | exact hHeld.2.2.2.2.2.2.2) | refine (cell_far ?_ _).trans ?_ | exact aot (by assumption) | exact Kd.own_blk (Kd.R_ne (aot (by assumption)) (aot (by assumption)) (by decide)) | (rw [add_block]; exact Kd.own_blk (Kd.R_ne (aot (by assumption)) (aot (by assumption)) (by decide))) | (show (Addr.add _ _).block ≠ _; rw [add_block]; exact Kd.own_blk (Kd.R_ne (aot (by assumption)) (aot (by assumption)) (by decide))) | (dsimp only; exact Kd.own_blk (Kd.R_ne (aot (by assumption)) (aot (by assumption)) (by decide))) | exact cT (by assumption) _)) : p := h
section
variable {α : Type} {d : Kd α} {e base g i t : Nat} {ok : Nat → Prop} {W : World} {v u : Value} {xs : List α} {cs : Array Value}
theorem R_setT (h : d.R e W base ok v xs) (hb : W.heap[g]? = some (.cells cs t (0, 0))) (ht : ∀ q, q ∈ e :: d.E → q ≠ t) : d.R e (W.setCell ⟨g, i, none⟩ u) base ok v xs :=
  Kd.R_mono (Kd.R_far (p := ⟨g, i, none⟩) (Kd.R_types h hb ht) (fun _ hk => hk.2) u) (fun _ hk => hk.1)
theorem rfX (h : d.R e W base ok v xs) (hb : W.heap[g]? = some (.cells cs t (0, 0))) (ht : e ≠ t := by decide) {ad : Addr} {n c : Nat} (hv : v = .slice (some ad) n c := by rfl) : ad.block ≠ g := by
  subst hv; exact Kd.own_blk (Kd.R_ne h hb ht)
end
section
variable {P : Program} {ops : Array Oper} {Q : Exit → Act → World → Prop} {rest : List Oper} {o : Oper} {a : Act} {W : World} {Kc : Act → World → Prop}
theorem xBx (N t : Nat) (cs : Array Value) (h : ∀ g, g = W.heap.size → ∀ w1, w1.heap[g]? = some (.cells cs t (0, 0)) → Below W.heap.size W w1 → wpList P ops Q rest (a.put o.dst (.pointer (some ⟨g, 0, none⟩))) w1)
    (hd : o.dst = some N := by rfl) (hg : o.guard = none := by rfl) (hr : (execOp a.eval o).run P W = .ok (.value (.pointer (some ⟨W.heap.size, 0, none⟩))) (W.alloc (.cells cs t (0, 0))) := by first | (go_simp; done) | (go_simp; rfl)) : wpList P ops Q (o :: rest) a W := box_event hg hd hr h
theorem yBx (N t : Nat) (cs : Array Value) (h : ∀ g, g = W.heap.size → ∀ w1, w1.heap[g]? = some (.cells cs t (0, 0)) → Below W.heap.size W w1 → Kc (a.put o.dst (.pointer (some ⟨g, 0, none⟩))) w1)
    (hd : o.dst = some N := by rfl) (hg : Region.wanted o (yielded ops a.tmps) = true := by rfl) (hr : (execOp a.eval o).run P W = .ok (.value (.pointer (some ⟨W.heap.size, 0, none⟩))) (W.alloc (.cells cs t (0, 0))) := by first | (go_simp; done) | (go_simp; rfl)) :
    if Region.wanted o (yielded ops a.tmps) = true then Oper.wp P o a W Kc Q else Kc (a.put o.dst undef) W := box_step hg hd hr h
theorem gtC (f : FuncId) {as : Array Operand} {ts : Array TypeId} (h : wpList P ops Q (o :: rest) a W) (_ho : o.op = .call { callee := .value (.func f), args := as, argTypes := ts } := by with_reducible rfl) : wpList P ops Q (o :: rest) a W := h
theorem gtD (N : Nat) (h : wpList P ops Q (o :: rest) a W) (_ho : o.dst = some N := by with_reducible rfl) : wpList P ops Q (o :: rest) a W := h
/-- A call by its contract. -/
theorem xCl (N : Nat) {f : FuncId} {fn : Func} {as : Array Operand} {ts : Array TypeId} {args : Array Value} {R : Ending → World → Prop} (hf : P.funcs[f]? = some fn) (hC : Calls P f args W R)
    (h : ∀ e w', R e w' → ∃ v, e = .returned v ∧ wpList P ops Q rest (a.put (some N) v) w') (hd : o.dst = some N := by rfl) (hg : o.guard = none := by rfl) (hname : (fn.name == "runtime.NumGoroutine") = false := by kernel_rfl) (hb : fn.body.isSome = true := by rfl)
    (hop : o.op = .call { callee := .value (.func f), args := as, argTypes := ts } := by rfl) (hargs : as.map a.eval = args := by (try simp only [List.map_toArray, List.map_cons, List.map_nil]); first | done | rfl | (simp only [List.length_drop, List.length_take]; rfl)) :
    wpList P ops Q (o :: rest) a W := goesL_ (some N) hd hg hf hname hb args hop hargs (hC.mono h)
theorem xCz (N : Nat) {f : FuncId} {fn : Func} {as : Array Operand} {ts : Array TypeId} {args : Array Value} {v : Value} (hf : P.funcs[f]? = some fn) (hC : Calls P f args W fun e w' => e = .returned v ∧ Drawn0 W w')
    (h : ∀ nd, wpList P ops Q rest (a.put (some N) v) (W.drewN nd)) (hd : o.dst = some N := by rfl) (hg : o.guard = none := by rfl) (hname : (fn.name == "runtime.NumGoroutine") = false := by kernel_rfl) (hb : fn.body.isSome = true := by rfl)
    (hop : o.op = .call { callee := .value (.func f), args := as, argTypes := ts } := by rfl) (hargs : as.map a.eval = args := by (try simp only [List.map_toArray, List.map_cons, List.map_nil]); first | done | rfl | (simp only [List.length_drop, List.length_take]; rfl)) :
    wpList P ops Q (o :: rest) a W := xCl N hf hC (by rintro e w' ⟨rfl, ⟨nd, rfl⟩⟩; exact ⟨_, rfl, h nd⟩) hd hg hname hb hop hargs
theorem xCb (N : Nat) {f : FuncId} {fn : Func} {as : Array Operand} {ts : Array TypeId} {args : Array Value} {v : Value} (hf : P.funcs[f]? = some fn) (hC : Calls P f args W fun e w' => e = .returned v ∧ Below W.heap.size W w')
    (h : ∀ w', Below W.heap.size W w' → wpList P ops Q rest (a.put (some N) v) w') (hd : o.dst = some N := by rfl) (hg : o.guard = none := by rfl) (hname : (fn.name == "runtime.NumGoroutine") = false := by kernel_rfl) (hb : fn.body.isSome = true := by rfl)
    (hop : o.op = .call { callee := .value (.func f), args := as, argTypes := ts } := by rfl) (hargs : as.map a.eval = args := by (try simp only [List.map_toArray, List.map_cons, List.map_nil]); first | done | rfl | (simp only [List.length_drop, List.length_take]; rfl)) :
    wpList P ops Q (o :: rest) a W := xCl N hf hC (by rintro e w' ⟨rfl, hb⟩; exact ⟨_, rfl, h w' hb⟩) hd hg hname hb hop hargs
end
section
variable {W : World} {g t : Nat} {l : List Value} {x y z u : Value}
/-- The cells of a box, as the walk reads them. -/
theorem bxA (h : Aside0 (W.heap[g]? = some (.cells (x :: l).toArray t (0, 0)))) : W.cell? ⟨g, 0, none⟩ = some x ∧ W.frozen? ⟨g, 0, none⟩ = false :=
  ⟨cT h 0 (by simp), blk_frozen h.out 0⟩
theorem bxB (h : Aside0 (W.heap[g]? = some (.cells (x :: y :: l).toArray t (0, 0)))) : W.cell? ⟨g, 0, none⟩ = some x ∧ W.cell? ⟨g, 1, none⟩ = some y ∧ W.frozen? ⟨g, 0, none⟩ = false ∧ W.frozen? ⟨g, 1, none⟩ = false :=
  ⟨cT h 0 (by simp), cT h 1 (by simp), blk_frozen h.out 0, blk_frozen h.out 1⟩
theorem bxC (h : Aside0 (W.heap[g]? = some (.cells (x :: y :: z :: l).toArray t (0, 0)))) : W.cell? ⟨g, 0, none⟩ = some x ∧ W.cell? ⟨g, 1, none⟩ = some y ∧ W.cell? ⟨g, 2, none⟩ = some z ∧ W.frozen? ⟨g, 0, none⟩ = false ∧ W.frozen? ⟨g, 1, none⟩ = false ∧ W.frozen? ⟨g, 2, none⟩ = false :=
  ⟨cT h 0 (by simp), cT h 1 (by simp), cT h 2 (by simp), blk_frozen h.out 0, blk_frozen h.out 1, blk_frozen h.out 2⟩
theorem bxD (h : Aside0 (W.heap[g]? = some (.cells (x :: y :: z :: u :: l).toArray t (0, 0)))) : W.cell? ⟨g, 0, none⟩ = some x ∧ W.cell? ⟨g, 1, none⟩ = some y ∧ W.cell? ⟨g, 2, none⟩ = some z ∧ W.cell? ⟨g, 3, none⟩ = some u ∧ W.frozen? ⟨g, 0, none⟩ = false ∧ W.frozen? ⟨g, 1, none⟩ = false ∧ W.frozen? ⟨g, 2, none⟩ = false ∧ W.frozen? ⟨g, 3, none⟩ = false :=
  ⟨cT h 0 (by simp), cT h 1 (by simp), cT h 2 (by simp), cT h 3 (by simp), blk_frozen h.out 0, blk_frozen h.out 1, blk_frozen h.out 2, blk_frozen h.out 3⟩
end
end Go.Proofs.YtknmfmedklfepaaGreatDoor.P
