/-
  Plain lemmas: a world that has only drawn and laid new blocks since another one (an instance finds it): what the printed texts carry along, in few letters.
-/
import Derived.Test.YtknmfmedklfepaaGreatDoorWWords
import Derived.Test.YtknmfmedklfepaaGreatDoorWMore
namespace Go.Proofs.YtknmfmedklfepaaGreatDoor.P
open Go.RowKit Go.Proofs.YtknmfmedklfepaaGreatDoorW.PrintWords
class Sub_ (W W0 : World) : Prop where
  h : Below W0.heap.size W0 W
instance sub_refl {W : World} : Sub_ W W := ⟨Below.refl _ _⟩
instance sub_drew {W W0 : World} [s : Sub_ W W0] : Sub_ W.drew W0 := ⟨below_drew1 s.h⟩
instance sub_drewN {W W0 : World} {n : Nat} [s : Sub_ W W0] : Sub_ (W.drewN n) W0 := ⟨pw_below_drewN s.h n⟩
instance sub_alloc {W W0 : World} {o : Obj} [s : Sub_ W W0] : Sub_ (W.alloc o) W0 := ⟨below_alloc s.h o⟩
theorem bT {W W0 : World} [s : Sub_ W W0] {g : Nat} {o : Obj} (h : W0.heap[g]? = some o) : W.heap[g]? = some o := blk_below h s.h
theorem eT {W W0 w : World} [s : Sub_ W W0] (h : Below w.heap.size w W0) : Below w.heap.size w W := below_step h s.h
theorem am {p : Prop} (h : p) : Aside0 p := ⟨h⟩
theorem oE {A C N : Prop} (h : (A ∨ A) ∨ N) (f : A → C) (g : N → C) : C := h.elim (fun h => h.elim f f) g
theorem fB {W W0 : World} [s : Sub_ W W0] {g : Nat} {o : Obj} (h : W0.heap[g]? = some o) (k : Nat) (hk : W.heap.size ≤ k) : k ≠ g := Kd.freshB (bT (W := W) h) k hk
theorem eU {w W : World} {g j : Nat} {v : Value} (h : Below w.heap.size w W) (hg : Aside0 (w.heap.size ≤ g)) : Below w.heap.size w (W.setCell ⟨g, j, none⟩ v) := below_set h hg.out
theorem pA {w W : World} (h : Below w.heap.size w W) (o : Obj) : Below w.heap.size w (W.alloc o) := below_alloc h o
theorem pN {B : Nat} {w W : World} (h : Below B w W) (n : Nat) : Below B w (W.drewN n) := pw_below_drewN h n
theorem pD {B : Nat} {w W : World} (h : Below B w W) : Below B w W.drew := below_drew1 h
theorem bn {w : World} {g : Nat} {o : Obj} (h : w.heap[g]? = some o) (n : Nat) : (w.drewN n).heap[g]? = some o := blk_drewN h n
theorem bd {w : World} {g : Nat} {o : Obj} (h : w.heap[g]? = some o) : w.drew.heap[g]? = some o := blk_drew h
theorem ba {w : World} {g : Nat} {o : Obj} (h : w.heap[g]? = some o) (o' : Obj) : (w.alloc o').heap[g]? = some o := blk_alloc h o'
theorem sT {W W0 w w1 : World} [s : Sub_ W W0] (h : Below w.heap.size w W0) (hb : Below W.heap.size W w1) : Below w.heap.size w w1 := below_step (eT h) hb
theorem bB {W W0 w1 : World} [s : Sub_ W W0] {g : Nat} {o : Obj} (h : W0.heap[g]? = some o) (hb : Below W.heap.size W w1) : w1.heap[g]? = some o := blk_below (bT h) hb
theorem gT {W W0 w : World} [s : Sub_ W W0] {g : Nat} (hg : g = W.heap.size) (h : Below w.heap.size w W0) : w.heap.size ≤ g := by rw [hg]; exact below_size (eT h)
theorem nT {W W0 : World} [s : Sub_ W W0] {a b : Nat} {o : Obj} (h : W0.heap[a]? = some o) (hg : b = W.heap.size) : a ≠ b := by rw [hg]; exact Nat.ne_of_lt (blk_lt (bT (W := W) h))
theorem mT {W W0 : World} [s : Sub_ W W0] {a b : Nat} {o : Obj} (h : W0.heap[a]? = some o) (hg : b = W.heap.size) : b ≠ a := by rw [hg]; exact Nat.ne_of_gt (blk_lt (bT (W := W) h))
theorem pS : (∀ (a : Act) (d : Tmp) (v : Value), a.put (some d) v = { a with tmps := a.tmps.setIfInBounds d v }) ∧ (∀ (a : Act) (v : Value), a.put none v = a) ∧ (∀ (l : List Value) (i : Nat) (v : Value), l.toArray.setIfInBounds i v = (l.set i v).toArray) ∧
    (∀ (x v : Value) (l : List Value), (x :: l).set 0 v = v :: l) ∧ (∀ (x v : Value) (l : List Value) (i : Nat), (x :: l).set (i + 1) v = x :: l.set i v) ∧ (∀ n : Int, IntKind.i32.wrap n = Go.RowKit.wrap32 n) ∧ (∀ n : Int, IntKind.i64.wrap n = Go.RowKit.wrap64 n) :=
  ⟨fun _ _ _ => rfl, fun _ _ => rfl, fun _ _ _ => by simp, fun _ _ _ => rfl, fun _ _ _ _ => rfl, fun n => by unfold Go.RowKit.wrap32; exact IntKind.wrap_i32 n, fun n => by unfold Go.RowKit.wrap64; exact IntKind.wrap_i64 n⟩
section
variable {α : Type} {d : Kd α} {e base : Nat} {ok : Nat → Prop} {W W0 w1 : World} {v : Value} {xs : List α}
theorem rT [s : Sub_ W W0] (h : d.R e W0 base ok v xs) : d.R e W base ok v xs := Kd.R_below h s.h
theorem vT [s : Sub_ W W0] (h : Kd.V d e W0 base ok v xs) : Kd.V d e W base ok v xs := Kd.V_below h s.h
theorem rB [s : Sub_ W W0] (h : d.R e W0 base ok v xs) (hb : Below W.heap.size W w1) : d.R e w1 base ok v xs := Kd.R_below (rT h) hb
theorem vB [s : Sub_ W W0] (h : Kd.V d e W0 base ok v xs) (hb : Below W.heap.size W w1) : Kd.V d e w1 base ok v xs := Kd.V_below (vT h) hb
end
open Go.Proofs.YtknmfmedklfepaaGreatDoorW.PrintLast Go.Proofs.YtknmfmedklfepaaGreatDoorW.PrintMore
/-! ### one step of a region that draws, in few letters -/
section
variable {P : Program} {ops : Array Oper} {Q : Exit → Act → World → Prop} {md : Region.Mode} {S : World → Prop} {ds : List Nat} {oi : Oper} {v : Value} {fuel : Nat} {l : Array Bool} {a a' : Act} {w : World} {T : Bool × List (List Nat × List Nat)}
/-- What has come up, as a number's bits. -/
def bA (n k : Nat) : Array Bool := ((List.range n).map fun i => k.testBit i).toArray
theorem pT (i n : Nat) (l' : Array Bool) (hT : rtab md ops = T) (h : wpAnyLast P md ops Q S ds fuel l' a' w) (hi : ops[i]? = some oi := by rfl) (hN : oi.dst = some n := by rfl) (hc : anyT T l.toList l'.toList i = true := by kernel_rfl)
    (hw : Region.wanted oi (yielded ops a.tmps) = true := by rfl) (hy : ∀ w', (execOp a.eval oi).run P w' = .ok (.value v) w' := by intro w'; go_simp; with_reducible rfl)
    (ha : a.put (some n) v = a' := by simp only [pS]; rfl) (hQ : ∀ c a w, Q (.panic c) (a.put oi.dst v) w → Q (.panic c) a w := by exact fun _ _ _ h => h) : wpAnyLast P md ops Q S ds (fuel + 1) l a w :=
  pure_ l' hi hN (any_of hT hc) hQ (Or.inl ⟨hw, hy⟩) ha h
theorem pU (i n : Nat) (l' : Array Bool) (hT : rtab md ops = T) (h : wpAnyLast P md ops Q S ds fuel l' a' w) (hi : ops[i]? = some oi := by rfl) (hN : oi.dst = some n := by rfl) (hc : anyT T l.toList l'.toList i = true := by kernel_rfl)
    (hw : Region.wanted oi (yielded ops a.tmps) = false := by rfl) (ha : a.put (some n) undef = a' := by simp only [pS]; rfl) (hQ : ∀ c a w, Q (.panic c) (a.put oi.dst undef) w → Q (.panic c) a w := by exact fun _ _ _ h => h) : wpAnyLast P md ops Q S ds (fuel + 1) l a w :=
  pure_ l' hi hN (any_of hT hc) hQ (Or.inr ⟨hw, rfl⟩) ha h
theorem tT {B : List Nat} (i n : Nat) (l' : Array Bool) (hT : rtab md ops = T) (hB : waitsOk T.2 B = true) (hS : S w) (h : wpAnyLast P md ops Q S ds fuel l' a' w) (hi : ops[i]? = some oi := by rfl) (hN : oi.dst = some n := by rfl) (hc : takeW T B ds l.toList l'.toList i = true := by kernel_rfl)
    (hw : Region.wanted oi (yielded ops a.tmps) = true := by rfl) (hy : ∀ w', S w' → (execOp a.eval oi).run P w' = .ok (.value v) w') (ha : a.put (some n) v = a' := by simp only [pS]; rfl) (hQ : ∀ c a w, Q (.panic c) (a.put oi.dst v) w → Q (.panic c) a w := by exact fun _ _ _ h => h) : wpAnyLast P md ops Q S ds (fuel + 1) l a w :=
  take_ l' hi hN (take_ofW hT hB hc) hQ (Or.inl ⟨hw, hy⟩) hS ha h
theorem mN (n : Nat) (h : wpAnyLast P md ops Q S ds fuel l a' w) (ha : a.put (some n) v = a' := by simp only [pS]; rfl) : wpAnyLast P md ops Q S ds fuel l (a.put (some n) v) w := norm_ ha h
theorem oT {N : Option Tmp} (i : Nat) (l' : Array Bool) (hT : rtab md ops = T)
    (h : ∀ K : Act → World → Prop, Shut (∀ a' w', S w' → (S w' → wpAnyLast P md ops Q S ds fuel l' a' w') → K a' w') → if Region.wanted oi (yielded ops a.tmps) = true then Oper.wp P oi a w K Q else K (a.put N undef) w) (hi : ops[i]? = some oi := by rfl) (hN : oi.dst = N := by rfl)
    (hc : (readyT T.2 l.toList == [i] && l.toList.set i true == l'.toList) = true := by kernel_rfl) (hd : i ∉ ds := by decide) : wpAnyLast P md ops Q S ds (fuel + 1) l a w := one_ l' hi hN (one_of hT hc) hd h
theorem gS {N : Option Tmp} {K : Act → World → Prop} {f : FuncId} {fn : Func} {as : Array Operand} {ts : Array TypeId} (hf : P.funcs[f]? = some fn) (args : Array Value)
    (h : Calls P f args w fun e w' => ∃ v, e = .returned v ∧ K (a.put N v) w') (hname : (fn.name == "runtime.NumGoroutine") = false := by kernel_rfl) (hb : fn.body.isSome = true := by rfl) (hw : Region.wanted oi (yielded ops a.tmps) = true := by rfl) (hN : oi.dst = N := by rfl)
    (hop : oi.op = .call { callee := .value (.func f), args := as, argTypes := ts } := by rfl) (hargs : as.map a.eval = args := by (try simp only [List.map_toArray, List.map_cons, List.map_nil]); first | done | rfl | (simp only [List.length_drop, List.length_take]; rfl)) :
    if Region.wanted oi (yielded ops a.tmps) = true then Oper.wp P oi a w K Q else K (a.put N undef) w := goes_ hf hname hb args hw hN hop hargs h
theorem gL {rest : List Oper} (N : Option Tmp) {f : FuncId} {fn : Func} {as : Array Operand} {ts : Array TypeId} (hf : P.funcs[f]? = some fn) (args : Array Value)
    (h : Calls P f args w fun e w' => ∃ v, e = .returned v ∧ wpList P ops Q rest (a.put N v) w') (hd : oi.dst = N := by rfl) (hg : oi.guard = none := by rfl) (hname : (fn.name == "runtime.NumGoroutine") = false := by kernel_rfl) (hb : fn.body.isSome = true := by rfl)
    (hop : oi.op = .call { callee := .value (.func f), args := as, argTypes := ts } := by rfl) (hargs : as.map a.eval = args := by (try simp only [List.map_toArray, List.map_cons, List.map_nil]); first | done | rfl | (simp only [List.length_drop, List.length_take]; rfl)) :
    wpList P ops Q (oi :: rest) a w := goesL_ N hd hg hf hname hb args hop hargs h
theorem qN {ns : List (Tmp × Value)} (h : wpAnyLast P md ops Q S ds fuel l (putAll a' ns) w) (ha : a = putAll a' ns := by first | (simp only [putAll, Act.put, List.setIfInBounds_toArray, List.set_cons_zero, List.set_cons_succ]; done) | (simp only [putAll, Act.put, List.setIfInBounds_toArray, List.set_cons_zero, List.set_cons_succ]; rfl)) : wpAnyLast P md ops Q S ds fuel l a w := norm_ ha h
theorem rN (h : wpAnyLast P md ops Q S ds fuel l a' w) (ha : a = a' := by simp only [putAll, Act.put, List.setIfInBounds_toArray, List.set_cons_zero, List.set_cons_succ]; rfl) : wpAnyLast P md ops Q S ds fuel l a w := norm_ ha h
theorem cT {W : World} {g : Nat} {cs : Array Value} {t : TypeId} (h : Aside0 (W.heap[g]? = some (.cells cs t (0, 0)))) (i : Nat) {u : Value} (hu : cs[i]? = some u := by rfl) : W.cell? ⟨g, i, none⟩ = some u := (blk_cell h.out i).trans hu
end
end Go.Proofs.YtknmfmedklfepaaGreatDoor.P
