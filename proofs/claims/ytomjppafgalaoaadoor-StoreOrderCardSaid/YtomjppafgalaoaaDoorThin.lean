/-
  Plain lemmas: a world that has only drawn and laid new blocks since another one (an instance finds it): what the printed texts carry along, in few letters.
-/
import Derived.Test.YtomjppafgalaoaaDoorWWords
import Derived.Test.YtomjppafgalaoaaDoorWMore
namespace Go.Proofs.YtomjppafgalaoaaDoor.P
open Go.RowKit Go.Proofs.YtomjppafgalaoaaDoorW.PrintWords
class Sub_ (W W0 : World) : Prop where
  h : Below W0.heap.size W0 W
instance sub_refl {W : World} : Sub_ W W := ⟨Below.refl _ _⟩
instance sub_drew {W W0 : World} [s : Sub_ W W0] : Sub_ W.drew W0 := ⟨below_drew1 s.h⟩
instance sub_drewN {W W0 : World} {n : Nat} [s : Sub_ W W0] : Sub_ (W.drewN n) W0 := ⟨pw_below_drewN s.h n⟩
instance sub_alloc {W W0 : World} {o : Obj} [s : Sub_ W W0] : Sub_ (W.alloc o) W0 := ⟨below_alloc s.h o⟩
theorem bT {W W0 : World} [s : Sub_ W W0] {g : Nat} {o : Obj} (h : W0.heap[g]? = some o) : W.heap[g]? = some o := blk_below h s.h
theorem eT {W W0 w : World} [s : Sub_ W W0] (h : Below w.heap.size w W0) : Below w.heap.size w W := below_step h s.h
theorem am {p : Prop} (h : p) : Aside0 p := ⟨h⟩
theorem oE {A C N : Prop} (h : (A ∨ A) ∨ N) (f : A → C) (g : N → C) : C := h.elim (fun h => h.elim f f) g
theorem fB {W W0 : World} [s : Sub_ W W0] {g : Nat} {o : Obj} (h : W0.heap[g]? = some o) (k : Nat) (hk : W.heap.size ≤ k) : k ≠ g := Kd.freshB (bT (W := W) h) k hk
theorem eU {w W : World} {g j : Nat} {v : Value} (h : Below w.heap.size w W) (hg : Aside0 (w.heap.size ≤ g)) : Below w.heap.size w (W.setCell ⟨g, j, none⟩ v) := below_set h hg.out
theorem pA {w W : World} (h : Below w.heap.size w W) (o : Obj) : Below w.heap.size w (W.alloc o) := below_alloc h o
theorem pN {B : Nat} {w W : World} (h : Below B w W) (n : Nat) : Below B w (W.drewN n) := pw_below_drewN h n
theorem pD {B : Nat} {w W : World} (h : Below B w W) : Below B w W.drew := below_drew1 h
theorem bn {w : World} {g : Nat} {o : Obj} (h : w.heap[g]? = some o) (n : Nat) : (w.drewN n).heap[g]? = some o := blk_drewN h n
theorem bd {w : World} {g : Nat} {o : Obj} (h : w.heap[g]? = some o) : w.drew.heap[g]? = some o := blk_drew h
theorem ba {w : World} {g : Nat} {o : Obj} (h : w.heap[g]? = some o) (o' : Obj) : (w.alloc o').heap[g]? = some o := blk_alloc h o'
theorem sT {W W0 w w1 : World} [s : Sub_ W W0] (h : Below w.heap.size w W0) (hb : Below W.heap.size W w1) : Below w.heap.size w w1 := below_step (eT h) hb
theorem bB {W W0 w1 : World} [s : Sub_ W W0] {g : Nat} {o : Obj} (h : W0.heap[g]? = some o) (hb : Below W.heap.size W w1) : w1.heap[g]? = some o := blk_below (bT h) hb
theorem gT {W W0 w : World} [s : Sub_ W W0] {g : Nat} (hg : g = W.heap.size) (h : Below w.heap.size w W0) : w.heap.size ≤ g := by rw [hg]; exact below_size (eT h)
theorem nT {W W0 : World} [s : Sub_ W W0] {a b : Nat} {o : Obj} (h : W0.heap[a]? = some o) (hg : b = W.heap.size) : a ≠ b := by rw [hg]; exact Nat.ne_of_lt (blk_lt (bT (W := W) h))
theorem mT {W W0 : World} [s : Sub_ W W0] {a b : Nat} {o : Obj} (h : W0.heap[a]? = some o) (hg : b = W.heap.size) : b ≠ a := by rw [hg]; exact Nat.ne_of_gt (blk_lt (bT (W := W) h))
theorem pS : (∀ (a : Act) (d : Tmp) (v : Value), a.put (some d) v = { a with tmps := a.tmps.setIfInBounds d v }) ∧ (∀ (a : Act) (v : Value), a.put none v = a) ∧ (∀ (l : List Value) (i : Nat) (v : Value), l.toArray.setIfInBounds i v = (l.set i v).toArray) ∧
    (∀ (x v : Value) (l : List Value), (x :: l).set 0 v = v :: l) ∧ (∀ (x v : Value) (l : List Value) (i : Nat), (x :: l).set (i + 1) v = x :: l.set i v) ∧ (∀ n : Int, IntKind.i32.wrap n = Go.RowKit.wrap32 n) ∧ (∀ n : Int, IntKind.i64.wrap n = Go.RowKit.wrap64 n) :=
  ⟨fun _ _ _ => rfl, fun _ _ => rfl, fun _ _ _ => by simp, fun _ _ _ => rfl, fun _ _ _ _ => rfl, fun n => by unfold Go.RowKit.wrap32; exact IntKind.wrap_i32 n, fun n => by unfold Go.RowKit.wrap64; exact IntKind.wrap_i64 n⟩
section
variable {α : Type} {d : Kd α} {e base : Nat} {ok : Nat → Prop} {W W0 w1 : World} {v : Value} {xs : List α}
theorem rT [s : Sub_ W W0] (h : d.R e W0 base ok v xs) : d.R e W base ok v xs := Kd.R_below h s.h
theorem vT [s : Sub_ W W0] (h : Kd.V d e W0 base ok v xs) : Kd.V d e W base ok v xs := Kd.V_below h s.h
theorem rB [s : Sub_ W W0] (h : d.R e W0 base ok v xs) (hb : Below W.heap.size W w1) : d.R e w1 base ok v xs := Kd.R_below (rT h) hb
theorem vB [s : Sub_ W W0] (h : Kd.V d e W0 base ok v xs) (hb : Below W.heap.size W w1) : Kd.V d e w1 base ok v xs := Kd.V_below (vT h) hb
end
end Go.Proofs.YtomjppafgalaoaaDoor.P
