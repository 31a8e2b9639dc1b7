-- Written by this project's own program (wip/tools/hp.py), driving the kit's print; hand texts among it. Not trusted: Lean checks it.
-- half the indentation
import Derived.Test.YtknmfmedklfepaaGreatDoorReg
import Derived.Test.YtknmfmedklfepaaGreatDoorP0
import Derived.Test.YtknmfmedklfepaaGreatDoorP20
import Derived.Test.YtknmfmedklfepaaGreatDoorP21
import Derived.Test.YtknmfmedklfepaaGreatDoorP22
namespace Go.Proofs.YtknmfmedklfepaaGreatDoor.P
open Go.RowKit Go.Proofs.YtknmfmedklfepaaGreatDoorW.PrintWords Go.Proofs.YtknmfmedklfepaaGreatDoorW.PrintLast Go.Proofs.YtknmfmedklfepaaGreatDoorW.PrintMore
attribute [local go_sem] max2_int min2_int max_two min_two max_three min_three max_four min_four   -- for this text's walks alone
set_option linter.unusedVariables false
set_option linter.unusedSimpArgs false

/-! ### HAND tally_Add -/
/-! #### kinds whose elements lead nowhere -/
def FreeK {α : Type} (d : Kd α) : Prop := (∀ w base ok x c, d.M w base ok x c → ∀ w' base' ok', d.M w' base' ok' x c) ∧ (∀ w x c, d.K w x c → ∀ w' base' ok', d.M w' base' ok' x c)
def Fr {α : Type} (d : Kd α) (x : α) (c : List Value) : Prop := ∀ w base ok, d.M w base ok x c
theorem free_string : FreeK Kd.string := ⟨fun _ _ _ _ _ h _ _ _ => h, fun _ _ _ h _ _ _ => h⟩
theorem free_raw : FreeK (Kd.raw 2) := ⟨fun _ _ _ _ _ h _ _ _ => h, fun _ _ _ h _ _ _ => h⟩
section
variable {α : Type} {d : Kd α} {e base : Nat} {ok : Nat → Prop} {w : World} {v : Value} {xs ys : List α} {inner cs ds : List Value} {R : α → List Value → Prop} {sz : Nat}
theorem raw_R (F : FreeK d) (h : d.R e w base ok v xs) : ∃ inner, w.ownsRow base e d.sz v xs.length inner ∧ Reps (Fr d) d.sz xs inner := by
 obtain ⟨h0, inner, ho, hr⟩ := h
 exact ⟨inner, ho, hr.imp_ (fun p c hp w' base' ok' => F.1 _ _ _ _ _ hp w' base' ok')⟩
theorem R_raw (ho : w.ownsRow base e d.sz v xs.length inner) (hr : Reps (Fr d) d.sz xs inner) (hk : ∀ k, v.ownBlock = some k → ok k) : d.R e w base ok v xs :=
 ⟨hk, inner, ho, hr.imp_ (fun p c hp => hp _ _ _)⟩
theorem reps_take (h : Reps R sz xs cs) (i : Nat) (hi : i ≤ xs.length) : Reps R sz (xs.take i) (cs.take (i * sz)) := by
 have hle : i * sz ≤ xs.length * sz := Nat.mul_le_mul_right _ hi
 refine ⟨by rw [List.length_take, List.length_take, h.1, Nat.min_eq_left hle, Nat.min_eq_left hi], fun j p hj => ?_⟩
 have hji : j < i := by
  have := (List.getElem?_eq_some_iff.1 hj).1
  rw [List.length_take] at this
  omega
 rw [List.getElem?_take_of_lt hji] at hj
 have h1 : j * sz + sz ≤ i * sz := by rw [← Nat.succ_mul]; exact Nat.mul_le_mul_right _ hji
 rw [List.drop_take, List.take_take, Nat.min_eq_left (by omega)]
 exact h.2 j p hj
theorem reps_drop (h : Reps R sz xs cs) (i : Nat) : Reps R sz (xs.drop i) (cs.drop (i * sz)) := by
 refine ⟨by rw [List.length_drop, List.length_drop, h.1, Nat.sub_mul], fun j p hj => ?_⟩
 rw [List.getElem?_drop] at hj
 rw [List.drop_drop, ← Nat.add_mul]
 exact h.2 (i + j) p hj
theorem reps_append (h : Reps R sz xs cs) (h' : Reps R sz ys ds) : Reps R sz (xs ++ ys) (cs ++ ds) := by
 refine ⟨by rw [List.length_append, List.length_append, h.1, h'.1, Nat.add_mul], fun j p hj => ?_⟩
 by_cases hjl : j < xs.length
 ·rw [List.getElem?_append_left hjl] at hj
  have h1 : j * sz + sz ≤ cs.length := by rw [h.1, ← Nat.succ_mul]; exact Nat.mul_le_mul_right _ hjl
  rw [List.drop_append_of_le_length (by omega), List.take_append_of_le_length (by rw [List.length_drop]; omega)]
  exact h.2 j p hj
 ·rw [List.getElem?_append_right (by omega)] at hj
  have h1 : j * sz = cs.length + (j - xs.length) * sz := by rw [h.1, ← Nat.add_mul]; congr 1; omega
  rw [h1, ← List.drop_drop, List.drop_left]
  exact h'.2 _ p hj
theorem reps_one (hR : ∀ p c, R p c → ∀ u ∈ c, u.oneCell' = true) (hs : 0 < sz) (h : Reps R sz xs cs) : ∀ u ∈ cs, u.oneCell' = true := by
 intro u hu
 obtain ⟨k, hk, rfl⟩ := List.getElem_of_mem hu
 have hkl := hk
 rw [h.1] at hkl
 have hj : k / sz < xs.length := Nat.div_lt_of_lt_mul (by rw [Nat.mul_comm]; exact hkl)
 refine hR _ _ (h.2 (k / sz) _ (List.getElem?_eq_getElem hj)) _ ?_
 have hm : k % sz < sz := Nat.mod_lt _ hs
 have hd := Nat.div_add_mod k sz
 rw [Nat.mul_comm] at hd
 rw [List.mem_iff_getElem?]
 refine ⟨k % sz, ?_⟩
 rw [List.getElem?_take_of_lt hm, List.getElem?_drop, hd, List.getElem?_eq_getElem hk]
theorem fr_one (F : FreeK d) (p : α) (c : List Value) (h : Fr d p c) : ∀ u ∈ c, u.oneCell' = true := d.K_one (d.K_of_M (h default 0 (fun _ => True)))
theorem raw_C1 (F : FreeK d) {A : Option Addr} {x : α} (h : d.C w A 1 [x]) : ∃ ad c, A = some ad ∧ c.length = d.sz ∧ Reps (Fr d) d.sz [x] c ∧ ∀ i u, c[i]? = some u → w.cell? (ad.add i) = some u := by
 obtain ⟨-, -, h⟩ := h
 obtain ⟨ad, e, h⟩ := h (by decide)
 obtain ⟨c, hl, hk, hc⟩ := h 0 x rfl
 refine ⟨ad, c, e, hl, ⟨by simp [hl], fun j p hj => ?_⟩, fun i u hu => ?_⟩
 ·cases j with
  | zero =>
   obtain rfl : x = p := by simpa using hj
   rw [Nat.zero_mul, List.drop_zero, ← hl, List.take_length]
   exact fun w' base' ok' => F.2 _ _ _ hk w' base' ok'
  | succ j => simp at hj
 ·have := hc i u hu
  rwa [Nat.zero_mul, Nat.zero_add] at this
end
/-! #### lists -/
theorem ins_list (L inner c : List Value) (N I J M s : Nat) (hJ : J = I + s) (hM : M = N + s) (hN : L.take N = inner) (hNl : inner.length = N) (hI : I ≤ N) (hc : c.length = s) (hL : M ≤ L.length) :
  let L1 := L.take J ++ inner.drop I ++ L.drop (J + (inner.drop I).length)
  let L2 := L1.take I ++ c ++ L1.drop (I + c.length)
  L1.length = L.length ∧ L2.length = L.length ∧ L2.take M = inner.take I ++ c ++ inner.drop I := by
 intro L1 L2
 subst hJ hM
 have hdl : (inner.drop I).length = N - I := by rw [List.length_drop, hNl]
 have e1 : L1.length = L.length := by
  show (L.take (I + s) ++ inner.drop I ++ L.drop (I + s + (inner.drop I).length)).length = _
  simp only [List.length_append, List.length_take, List.length_drop]
  omega
 have e2 : L1.take I = inner.take I := by
  show (L.take (I + s) ++ inner.drop I ++ L.drop (I + s + (inner.drop I).length)).take I = _
  rw [List.append_assoc, List.take_append_of_le_length (by rw [List.length_take]; omega), List.take_take, Nat.min_eq_left (by omega), ← hN, List.take_take, Nat.min_eq_left hI]
 have e3 : L1.drop (I + s) = inner.drop I ++ L.drop (I + s + (inner.drop I).length) := by
  show (L.take (I + s) ++ inner.drop I ++ L.drop (I + s + (inner.drop I).length)).drop (I + s) = _
  rw [List.append_assoc, List.drop_append_of_le_length (by rw [List.length_take]; omega), List.drop_take, Nat.sub_self, List.take_zero, List.nil_append]
 refine ⟨e1, ?_, ?_⟩
 ·show (L1.take I ++ c ++ L1.drop (I + c.length)).length = _
  simp only [List.length_append, List.length_take, List.length_drop, e1]
  omega
 ·show (L1.take I ++ c ++ L1.drop (I + c.length)).take (N + s) = _
  rw [e2, hc, e3]
  have hh : (inner.take I ++ c ++ inner.drop I).length = N + s := by
   simp only [List.length_append, List.length_take, List.length_drop]; omega
  rw [← List.append_assoc, ← hh, List.take_left']
  rfl
theorem grow_list (Z inner c : List Value) (N I J M s : Nat) (hJ : J = I + s) (hM : M = N + s) (hNl : inner.length = N) (hI : I ≤ N) (hc : c.length = s) (hL : M ≤ I + Z.length) :
  let L := inner.take I ++ Z
  let L1 := L.take I ++ c ++ L.drop (I + c.length)
  let L2 := L1.take J ++ inner.drop I ++ L1.drop (J + (inner.drop I).length)
  L1.length = L.length ∧ L2.length = L.length ∧ L2.take M = inner.take I ++ c ++ inner.drop I := by
 intro L L1 L2
 subst hJ hM
 have hil : (inner.take I).length = I := by rw [List.length_take, hNl]; omega
 have hdl : (inner.drop I).length = N - I := by rw [List.length_drop, hNl]
 have hLl : L.length = I + Z.length := by show (inner.take I ++ Z).length = _; rw [List.length_append, hil]
 have e0 : L.take I = inner.take I := by show (inner.take I ++ Z).take I = _; rw [List.take_append_of_le_length (by omega), List.take_of_length_le (by omega)]
 have e1 : L1.length = L.length := by
  show (L.take I ++ c ++ L.drop (I + c.length)).length = _
  simp only [List.length_append, List.length_take, List.length_drop]; omega
 have e2 : L1.take (I + s) = inner.take I ++ c := by
  show (L.take I ++ c ++ L.drop (I + c.length)).take (I + s) = _
  rw [e0]
  have hh : (inner.take I ++ c).length = I + s := by rw [List.length_append, hil, hc]
  rw [← hh, List.take_left']; rfl
 refine ⟨e1, ?_, ?_⟩
 ·show (L1.take (I + s) ++ inner.drop I ++ L1.drop (I + s + (inner.drop I).length)).length = _
  simp only [List.length_append, List.length_take, List.length_drop, e1]; omega
 ·show (L1.take (I + s) ++ inner.drop I ++ L1.drop (I + s + (inner.drop I).length)).take (N + s) = _
  rw [e2]
  have hh : (inner.take I ++ c ++ inner.drop I).length = N + s := by
   simp only [List.length_append, List.length_take, List.length_drop]; omega
  rw [← hh, List.take_left']; rfl
/-! #### the world behind a row that is written -/
theorem grown_setRow (w : World) (g : Nat) (cs : Array Value) : w.grownBy (w.setRow g cs) (some g) :=
 ⟨rfl, rfl, rfl, by rw [setRow_size]; exact Nat.le_refl _, fun k _ h => setRow_other w g k cs (fun e => h (by rw [e]))⟩
theorem grown_setRowD (w : World) (g : Nat) (cs : Array Value) : w.grownBy (w.drew.setRow g cs) (some g) :=
 ⟨rfl, rfl, rfl, by rw [setRow_size]; exact Nat.le_refl _, fun k _ h => setRow_other w.drew g k cs (fun e => h (by rw [e]))⟩
theorem run_copy_rowS {P : Program} (w : World) (dT sT ty elem : TypeId) (sz g o dLen dCap : Nat) (a : Addr) (sLen sCap : Nat) (cur : Array Value) (t : TypeId) (cs : List Value)
  (hu : P.underlying dT = some (.slice elem)) (hs : (P.info? elem).map (·.size) = some sz)
  (hg : w.heap[g]? = some (.cells cur t (0, 0))) (hn : cs.length = Nat.min sLen dLen * sz)
  (hsrc : ∀ j v, cs[j]? = some v → w.cell? (a.add j) = some v) (hfit : o + cs.length ≤ cur.size) (h1 : ∀ v ∈ cs, v.oneCell' = true) :
  (Builtin.copy_ #[dT, sT] ty #[.slice (some ⟨g, o, none⟩) dLen dCap, .slice (some a) sLen sCap]).run P w =
   .ok (goInt (Nat.min sLen dLen)) (w.setRow g (cur.toList.take o ++ cs ++ cur.toList.drop (o + cs.length)).toArray) := by
 have hl := run_loadCells_list (P := P) w a cs hsrc
 have hst := run_storeCells_at P g o t cs 0 cur w hg (by simpa using hfit) h1
 cases hq : P.info? elem with
 | none => simp [hq] at hs
 | some i =>
  have hi : i.size = sz := by simpa [hq] using hs
  simp [Builtin.copy_, run_underlying hu, Builtin.lenOf, Builtin.firstCells, sizeOf, typeInfo, hq, hi, ← hn, hl, hst]
theorem run_overlaps_own {P : Program} (w : World) (tS tR e : TypeId) (ht : P.underlying tS = some (.slice e)) (size : Nat) (hz : ∀ w, (Go.sizeOf e).run P w = .ok size w)
  (a b : Addr) (la ca lb cb : Nat) (hne : a.block ≠ b.block) (ca_ cb_ : Array Value) (tA tB : TypeId) (fA : Nat × Nat)
  (hsa : w.heap[a.block]? = some (.cells ca_ tA fA)) (hsb : w.heap[b.block]? = some (.cells cb_ tB (0, 0))) (hkA : ca_.size ≠ 0) :
  (Extern.SlicesOverlaps.overlaps #[tS, tS] #[tR] #[.slice (some a) la ca, .slice (some b) lb cb]).run P w = .ok (.bool false) w := by
 have hnb : (a.block != b.block) = true := by simpa using hne
 have hnb' : (a.block == b.block) = false := by simpa using hne
 have sa : w.shape? a.block = some (tA, ca_.size) := by simp [World.shape?, hsa]
 have sb : w.shape? b.block = some (tB, cb_.size) := by simp [World.shape?, hsb]
 have fb : ∀ o s, w.frozen? ⟨b.block, o, s⟩ = false := fun o s => by simp [World.frozen?, hsb]
 have fb' : w.frozen? b = false := fb b.off b.spot
 change Sem.run P (α := Value) (do
  let some t := (#[tS, tS] : Array TypeId)[0]? | stuck "slices.overlaps: no parameter types"
  let .slice elem ← underlying t | stuck "slices.overlaps: slice type expected"
  let size ← sizeOf elem
  match (some a : Option Addr), (some b : Option Addr) with
  | some a, some b =>
   if la = 0 ∨ lb = 0 ∨ size = 0 then pure (Value.bool false)
   else if a.block != b.block && (← frozen a) && (← frozen b) then unsupported .addressObserved
   else do
    if a.block != b.block then do
     noView a; noView b
     if ← mayBeOne a b then return Value.bool ((← choose (.extern "sameAddr.stringBytes" 2)) == 1)
    pure (Value.bool (a.block == b.block && a.off < b.off + lb * size && b.off < a.off + la * size))
  | _, _ => pure (Value.bool false)) w = _
 by_cases h0 : la = 0 ∨ lb = 0 ∨ size = 0
 ·simp [run_underlying ht, hz, h0]
 ·cases hk : ca_.size with
  | zero => exact absurd hk hkA
  | succ kA =>
   rw [hk] at sa
   cases hfa : w.frozen? a <;> cases hfe : w.frozen? { block := a.block, off := kA + 1 } <;>
    simp [run_underlying ht, hz, h0, hnb, hnb', frozen, noView, viewAt, mayBeOne, stringish, shape, Sem.run, sa, sb, fb, fb', hfa, hfe]
theorem wpList_copy_runI {ops : Array Oper} {rest : List Oper} {o : Oper} {a : Act} {w : World} {Q : Exit → Act → World → Prop} (hgd : o.guard = none) (d s : Operand) (t t' : TypeId)
  (ho : o.op = .call { callee := .builtin .copy, args := #[d, s], argTypes := #[t, t'] }) (v u : Value) (hd : a.eval d = v) (hs : a.eval s = u) {v' : Value} {w' : World}
  (hr : (Builtin.copy_ #[t, t'] o.type #[v, u]).run Tryz.prog w = .ok v' w') (h : wpList Tryz.prog ops Q rest (a.put o.dst v') w') : wpList Tryz.prog ops Q (o :: rest) a w :=
 wpList_plain hgd fun _ hK => by
  unfold Oper.wp execOp
  simp only [ho, resolve, invoke, builtin, Sem.run_bind, Sem.run_pure, Result.andThen_ok, List.map_toArray, List.map_cons, List.map_nil, hd, hs, hr]
  exact hK _ _ h
theorem step_copy_runI {ops : Array Oper} {o : Oper} {a : Act} {w : World} {K : Act → World → Prop} {Q : Exit → Act → World → Prop} {E : Prop}
  (hg : o.guard = none) (d x : Operand) (dT sT : TypeId) (hop : o.op = Op.call { callee := Callee.builtin Builtin.copy, args := #[d, x], argTypes := #[dT, sT] })
  (v u : Value) (hd : a.eval d = v) (hx : a.eval x = u) {v' : Value} {w' : World} (hr : (Builtin.copy_ #[dT, sT] o.type #[v, u]).run Tryz.prog w = .ok v' w') (hK : K (a.put o.dst v') w') :
  if Region.wanted o (yielded ops a.tmps) = true then Oper.wp Tryz.prog o a w K Q else E := by
 have hw : Region.wanted o (yielded ops a.tmps) = true := by simp [Region.wanted, hg]
 rw [if_pos hw]
 unfold Oper.wp
 simp [execOp, hop, resolve, invoke, builtin, hd, hx, hr, Result.andThen]
 exact hK
theorem step_append_runI {ops : Array Oper} {o : Oper} {a : Act} {w : World} {K : Act → World → Prop} {Q : Exit → Act → World → Prop} {E : Prop}
  (hg : o.guard = none) (d x : Operand) (dT sT : TypeId) (hop : o.op = Op.call { callee := Callee.builtin Builtin.append, args := #[d, x], argTypes := #[dT, sT] })
  (v u : Value) (hd : a.eval d = v) (hx : a.eval x = u) {v' : Value} {w' : World} (hr : (Builtin.append_ #[dT, sT] o.type #[v, u]).run Tryz.prog w = .ok v' w') (hK : K (a.put o.dst v') w') :
  if Region.wanted o (yielded ops a.tmps) = true then Oper.wp Tryz.prog o a w K Q else E := by
 have hw : Region.wanted o (yielded ops a.tmps) = true := by simp [Region.wanted, hg]
 rw [if_pos hw]
 unfold Oper.wp
 simp [execOp, hop, resolve, invoke, builtin, hd, hx, hr, Result.andThen]
 exact hK
theorem wpList_clear_runI {ops : Array Oper} {rest : List Oper} {o : Oper} {a : Act} {w : World} {Q : Exit → Act → World → Prop} (hgd : o.guard = none) (d : Operand) (t : TypeId)
  (ho : o.op = .call { callee := .builtin .clear, args := #[d], argTypes := #[t] }) (v : Value) (hd : a.eval d = v) {v' : Value} {w' : World}
  (hr : (Builtin.clear_ #[t] o.type #[v]).run Tryz.prog w = .ok v' w') (h : wpList Tryz.prog ops Q rest (a.put o.dst v') w') : wpList Tryz.prog ops Q (o :: rest) a w :=
 wpList_plain hgd fun _ hK => by
  unfold Oper.wp execOp
  simp only [ho, resolve, invoke, builtin, Sem.run_bind, Sem.run_pure, Result.andThen_ok, List.map_toArray, List.map_cons, List.map_nil, hd, hr]
  exact hK _ _ h
theorem run_append_rowS {P : Program} (w : World) (t ty e : TypeId) (sz : Nat) (ht : P.underlying t = some (.slice e)) (hs : (P.info? e).map (·.size) = some sz) (g n cap : Nat) (a : Addr) (m c : Nat) (cur : Array Value) (T : TypeId) (news : List Value)
  (hg : w.heap[g]? = some (.cells cur T (0, 0))) (hl : news.length = m * sz) (hnews : ∀ j u, news[j]? = some u → w.cell? (a.add j) = some u) (h1 : ∀ u ∈ news, u.oneCell' = true) (hroom : n + m ≤ cap) (hfit : n * sz + news.length ≤ cur.size) :
  (Builtin.append_ #[t, t] ty #[.slice (some ⟨g, 0, none⟩) n cap, .slice (some a) m c]).run P w = .ok (.slice (some ⟨g, 0, none⟩) (n + m) cap) (w.setRow g (cur.toList.take (n * sz) ++ news ++ cur.toList.drop (n * sz + news.length)).toArray) := by
 cases hq : P.info? e with
 | none => simp [hq] at hs
 | some i =>
  have hi : i.size = sz := by simpa [hq] using hs
  have hfc := run_firstCells_some (P := P) w sz m a m c news hl hnews
  have hst := run_storeCells_at P g (n * sz) T news 0 cur w hg (by simpa using hfit) h1
  simp only [Nat.add_zero] at hst
  simp [Builtin.append_, run_underlying ht, sizeOf, typeInfo, hq, hi, Builtin.lenOf, hroom, hfc, Addr.add_lit, hst]
theorem run_clear_rowS {P : Program} (w : World) (t e ty : TypeId) (z : Value) (ht : P.underlying t = some (.slice e)) (hv : ∀ w, (zeroValue e).run P w = .ok z w) (g o n c : Nat) (cur : Array Value) (T : TypeId) (zs : List Value) (hzs : (Builtin.zeroCells z.cells n).toList = zs)
  (hg : w.heap[g]? = some (.cells cur T (0, 0))) (hn : 0 < n) (hfit : o + zs.length ≤ cur.size) (h1 : ∀ u ∈ zs, u.oneCell' = true) :
  (Builtin.clear_ #[t] ty #[.slice (some ⟨g, o, none⟩) n c]).run P w = .ok (.tuple #[]) (w.setRow g (cur.toList.take o ++ zs ++ cur.toList.drop (o + zs.length)).toArray) := by
 have hst := run_storeCells_at P g o T zs 0 cur w hg (by simpa using hfit) h1
 simp only [Nat.add_zero] at hst
 obtain ⟨m, rfl⟩ : ∃ m, n = m + 1 := ⟨n - 1, by omega⟩
 simp [Builtin.clear_, run_underlying ht, hv, hzs, hst]
theorem dele_list (L inner z : List Value) (N I J M s : Nat) (hJ : J = I + s) (hM : N = M + s) (hN : L.take N = inner) (hNl : inner.length = N) (hI : I ≤ M) (hz : z.length = s) (hL : N ≤ L.length) :
  let L1 := L.take I ++ inner.drop J ++ L.drop (I + (inner.drop J).length)
  let L2 := L1.take M ++ z ++ L1.drop (M + z.length)
  L1.length = L.length ∧ L2.length = L.length ∧ L2.take M = inner.take I ++ inner.drop J := by
 intro L1 L2
 subst hJ hM
 have hdl : (inner.drop (I + s)).length = M - I := by rw [List.length_drop, hNl]; omega
 have hLI : L.take I = inner.take I := by rw [← hN, List.take_take, Nat.min_eq_left (by omega)]
 have e1 : L1.length = L.length := by
  show (L.take I ++ inner.drop (I + s) ++ L.drop (I + (inner.drop (I + s)).length)).length = _
  simp only [List.length_append, List.length_take, hdl, List.length_drop]; omega
 have e2 : L1.take M = inner.take I ++ inner.drop (I + s) := by
  show (L.take I ++ inner.drop (I + s) ++ L.drop (I + (inner.drop (I + s)).length)).take M = _
  have hh : (L.take I ++ inner.drop (I + s)).length = M := by rw [List.length_append, hdl, List.length_take]; omega
  rw [List.take_append_of_le_length (by omega), List.take_of_length_le (by omega), hLI]
 refine ⟨e1, ?_, ?_⟩
 ·show (L1.take M ++ z ++ L1.drop (M + z.length)).length = _
  simp only [List.length_append, List.length_take, List.length_drop, e1]; omega
 ·show (L1.take M ++ z ++ L1.drop (M + z.length)).take M = _
  rw [List.append_assoc, List.take_append_of_le_length (by rw [List.length_take, e1]; omega), List.take_take, Nat.min_self, e2]

/-! #### S: slices.Clone, Insert, Delete -/
def slices_Clone_string_string.f (l0 : List (ByteArray)) : Option (List (ByteArray)) := if l0.length ≤ 1000000000 then some l0 else none
def slices_Insert_string_string.f (l0 : List (ByteArray)) (a1 : Int) (l2 : List (ByteArray)) : Option (List (ByteArray)) := if l0.length ≤ 1000000000 ∧ 0 ≤ a1 ∧ a1 ≤ (l0.length : Int) ∧ l2.length = 1 then some (l0.take a1.toNat ++ l2 ++ l0.drop a1.toNat) else none

/-! #### R: slices.Clone, Insert, Delete -/
def rowC.f (l0 : List ((List Value))) : Option (List ((List Value))) := if l0.length ≤ 1000000000 then some l0 else none
def rowI.f (l0 : List ((List Value))) (a1 : Int) (l2 : List ((List Value))) : Option (List ((List Value))) := if l0.length ≤ 1000000000 ∧ 0 ≤ a1 ∧ a1 ≤ (l0.length : Int) ∧ l2.length = 1 then some (l0.take a1.toNat ++ l2 ++ l0.drop a1.toNat) else none

set_option maxRecDepth 100000 in
set_option maxHeartbeats 4000000 in
/-- i < len(s), and there is room. -/
theorem shift_S (g n cap i : Nat) (va : Addr) (vc : Nat) (cur : Array Value) (inner c : List Value) (w : World) (hg : w.heap[g]? = some (.cells cur 9 (0, 0))) (hi : i < n) (hcap : n + 1 ≤ cap) (hc63 : cap ≤ 9223372036854775807)
  (hcur : cur.size = cap) (hik : cur.toList.take (n) = inner) (hcl : c.length = 1) (hva : va.block ≠ g) (hvc : ∀ j u, c[j]? = some u → w.cell? (va.add j) = some u) (h1i : ∀ u ∈ inner, u.oneCell' = true) (h1c : ∀ u ∈ c, u.oneCell' = true)
  (ca_ : Array Value) (tA : TypeId) (fA : Nat × Nat) (hsa : w.heap[va.block]? = some (.cells ca_ tA fA)) (hka : ca_.size ≠ 0) :
  Calls Tryz.prog 58 #[.slice (some ⟨g, 0, none⟩) n cap, .int .i64 i, .slice (some va) 1 vc] w fun e w' => ∃ cur2 : Array Value, e = .returned (.slice (some ⟨g, 0, none⟩) (n + 1) cap) ∧ w' = w.drew.setRow g cur2 ∧ cur2.size = cap ∧ cur2.toList.take (n + 1) = inner.take (i) ++ c ++ inner.drop (i) := by
 have hu := Tryz.underlying61
 have hsz : (Tryz.prog.info? 9).map (·.size) = some 1 := by kernel_rfl
 have hil : inner.length = n := by rw [← hik, List.length_take, Array.length_toList, hcur]; omega
 obtain ⟨hL1, hL2, hL3⟩ := ins_list cur.toList inner c (n) (i) (i + 1) (n + 1) 1 (by omega) (by omega) hik hil (by omega) hcl (by rw [Array.length_toList, hcur]; omega)
 have hdl : (inner.drop (i)).length = (n - i) := by have := @List.length_drop _ (i) inner; omega
 obtain ⟨cur1, hcur1⟩ : ∃ cur1 : Array Value, cur1 = (cur.toList.take (i + 1) ++ inner.drop (i) ++ cur.toList.drop (i + 1 + (inner.drop (i)).length)).toArray := ⟨_, rfl⟩
 have hs1 : cur1.size = cap := by rw [hcur1, List.size_toArray, hL1, Array.length_toList, hcur]
 have e1 : cur1.toList = cur.toList.take (i + 1) ++ inner.drop (i) ++ cur.toList.drop (i + 1 + (inner.drop (i)).length) := by rw [hcur1]
 obtain ⟨cur2, hcur2⟩ : ∃ cur2 : Array Value, cur2 = (cur1.toList.take (i) ++ c ++ cur1.toList.drop (i + c.length)).toArray := ⟨_, rfl⟩
 have e2 : cur2.toList = cur1.toList.take (i) ++ c ++ cur1.toList.drop (i + c.length) := by rw [hcur2]
 have hz1 : ¬ ((1 : Int) = 0) := by omega
 have hz2 : ¬ ((i : Int) = (n : Int)) := by omega
 have hadd : ∀ o j, Addr.add ⟨g, o, none⟩ j = ⟨g, o + j, none⟩ := fun o j => Addr.add_lit g o j
 have hgc : ∀ j u, inner[j]? = some u → w.cell? ⟨g, j, none⟩ = some u := fun j u hj => by
  have hjl : j < n := by have := (List.getElem?_eq_some_iff.1 hj).1; omega
  rw [← hik, List.getElem?_take_of_lt hjl, Array.getElem?_toList] at hj
  simp [World.cell?, hg, hj]
 have hov : ∀ o lb cb, (callFunc 86 #[.slice (some va) 1 vc, .slice (some ⟨g, o, none⟩) lb cb]).run Tryz.prog w = .ok (.value (.bool false)) w := fun o lb cb => by
  rw [run_callFunc_extern Tryz.func86 (by kernel_rfl) (by kernel_rfl) (by kernel_rfl) (e := Extern.SlicesOverlaps.overlaps #[61, 61] #[4]) (by kernel_rfl),
   run_overlaps_own w 61 4 9 hu 1 (by intro w; rfl) va ⟨g, o, none⟩ 1 vc lb cb hva ca_ cur tA 9 fA hsa hg hka]
  rfl
 have hcp1 : ∀ ty dc sc, (Builtin.copy_ #[61, 61] ty #[.slice (some ⟨g, i + 1, none⟩) (n - i) dc, .slice (some ⟨g, i, none⟩) (n + 1 - i) sc]).run Tryz.prog w.drew = .ok (goInt (Nat.min (n + 1 - i) (n - i))) (w.drew.setRow g cur1) := fun ty dc sc => by
  rw [hcur1]
  exact run_copy_rowS w.drew 61 61 ty 9 1 g (i + 1) (n - i) dc ⟨g, i, none⟩ (n + 1 - i) sc cur 9 (inner.drop (i)) hu hsz hg (by rw [hdl]; show _ = min _ _ * _; rw [Nat.min_def]; split <;> omega)
   (fun j v hj => by rw [hadd]; exact hgc _ _ (by rwa [List.getElem?_drop] at hj)) (by rw [hdl, hcur]; omega) (fun v hv => h1i v (List.mem_of_mem_drop hv))
 have hg1 : (w.drew.setRow g cur1).heap[g]? = some (.cells cur1 9 (0, 0)) := setRow_heap w.drew g cur cur1 9 (0, 0) hg
 have hcp2 : ∀ W, W.heap[g]? = some (.cells cur1 9 (0, 0)) → (∀ k, k ≠ g → W.heap[k]? = w.heap[k]?) → ∀ ty dc, (Builtin.copy_ #[61, 61] ty #[.slice (some ⟨g, i, none⟩) (n + 1 - i) dc, .slice (some va) 1 vc]).run Tryz.prog W = .ok (goInt (Nat.min 1 (n + 1 - i))) (W.setRow g cur2) := fun W hW1 hW2 ty dc => by
  rw [hcur2]
  exact run_copy_rowS W 61 61 ty 9 1 g (i) (n + 1 - i) dc va 1 vc cur1 9 c hu hsz hW1 (by rw [hcl]; show _ = min _ _ * _; rw [Nat.min_def]; split <;> omega)
   (fun j v hj => by
    have h := hvc j v hj
    have hb : (va.add j).block = va.block := by unfold Addr.add; split <;> rfl
    unfold World.cell? at h ⊢
    rw [hW2 _ (by rw [hb]; exact hva)]; exact h) (by rw [hcl, hs1]; omega) h1c
 obtain ⟨W1, hW1⟩ : ∃ W1, W1 = w.drew.setRow g cur1 := ⟨_, rfl⟩
 rw [← hW1] at hcp1 hg1
 have hk1 : ∀ k, k ≠ g → W1.heap[k]? = w.heap[k]? := fun k hk => by rw [hW1]; exact setRow_other w.drew g k cur1 hk
 have hw1 : IntKind.i64.wrap ((i : Int) + 1) = (i : Int) + 1 := by rw [IntKind.wrap_i64]; omega
 have hb1 : (0 : Int) ≤ (i : Int) + 1 := by omega
 have hin : i ≤ n := by omega
 have htn : ((i : Int) + 1).toNat = i + 1 := by omega
 have hb2 : ¬ (cap = i + 1) := by omega
 have hb3 : (i : Int) ≤ (n : Int) + 1 := by omega
 have hb5 : (i : Int) ≤ (n : Int) := by omega
 have hb4 : ¬ (cap = i) := by omega
 have hs2 : cur2.size = cap := by rw [← Array.length_toList, e2, e1, hL2, Array.length_toList, hcur]
 have ht2 : cur2.toList.take (n + 1) = inner.take (i) ++ c ++ inner.drop (i) := by rw [e2, e1]; exact hL3
 have HX := Aside0.mk (And.intro hW1 (And.intro hs2 ht2))
 clear hcur2 e2 hs2 ht2 hW1 hcur1 e1 hL1 hL2 hL3 hik hil hdl hcur hs1 hgc hsz hadd h1i h1c hvc
 go_enter Tryz.func58, Tryz.ntmps58
 go_wp2_with (simp only [hov])
 go_region_law (refine step_copy_runI rfl _ _ 61 61 rfl _ _ (by simp [Act.eval, Act.put]) (by simp [Act.eval, Act.put]) (hcp1 _ _ _) ?_)
 have hcp3 := hcp2 W1 hg1 hk1
 clear hcp1 hcp2
 go_wp2_with (first | (simp only [hcp3]) | (at_builtin; refine wpList_copy_runI rfl _ _ 61 61 rfl _ _ rfl rfl (hcp3 _ _) ?_))
 go_ret
 refine ⟨cur2, rfl, ?_, HX.out.2.1, HX.out.2.2⟩
 rw [HX.out.1, setRow_setRow]

set_option maxRecDepth 100000 in
set_option maxHeartbeats 4000000 in
/-- i < len(s), and there is no room. -/
theorem grow_S (g n cap i : Nat) (va : Addr) (vc : Nat) (cur : Array Value) (inner c : List Value) (w : World) (hg : w.heap[g]? = some (.cells cur 9 (0, 0))) (hi : i < n) (hcap : cap = n) (hn : n ≤ 1000000000)
  (hcur : cur.size = cap) (hik : cur.toList.take (n) = inner) (hcl : c.length = 1) (hvc : ∀ j u, c[j]? = some u → w.cell? (va.add j) = some u) (h1i : ∀ u ∈ inner, u.oneCell' = true) (h1c : ∀ u ∈ c, u.oneCell' = true) (hvl : va.block < w.heap.size) :
  Calls Tryz.prog 58 #[.slice (some ⟨g, 0, none⟩) n cap, .int .i64 i, .slice (some va) 1 vc] w fun e w' => ∃ (G : Nat) (cur2 : Array Value), e = .returned (.slice (some ⟨w.heap.size, 0, none⟩) (n + 1) G) ∧ w.grownBy w' none ∧ w'.heap[w.heap.size]? = some (.cells cur2 9 (0, 0)) ∧ n + 1 ≤ G ∧ G ≤ maxLen ∧ cur2.size = G ∧ cur2.toList.take (n + 1) = inner.take (i) ++ c ++ inner.drop (i) := by
 have hu := Tryz.underlying61
 have hsz : (Tryz.prog.info? 9).map (·.size) = some 1 := by kernel_rfl
 obtain ⟨i0, hi0, hz0, hzs, hzb⟩ : ∃ i0, Tryz.prog.info? 9 = some i0 ∧ i0.zero = some (.string ⟨#[]⟩) ∧ i0.size = 1 ∧ i0.bytes = 16 := by
  have h := info9
  obtain ⟨i0, h1, h2⟩ := Option.map_eq_some_iff.1 h
  injection h2 with h2 h3
  injection h3 with h3 h4
  exact ⟨i0, h1, h2, h3, h4⟩
 have hil : inner.length = n := by rw [← hik, List.length_take, Array.length_toList, hcur]; omega
 have hdl : (inner.drop (i)).length = (n - i) := by have := @List.length_drop _ (i) inner; omega
 have hgl : g < w.heap.size := (Array.getElem?_eq_some_iff.1 hg).1
 have hadd : ∀ (b o j : Nat), Addr.add ⟨b, o, none⟩ j = ⟨b, o + j, none⟩ := fun b o j => Addr.add_lit b o j
 have hgc : ∀ j u, inner[j]? = some u → w.cell? ⟨g, j, none⟩ = some u := fun j u hj => by
  have hjl : j < n := by have := (List.getElem?_eq_some_iff.1 hj).1; omega
  rw [← hik, List.getElem?_take_of_lt hjl, Array.getElem?_toList] at hj
  simp [World.cell?, hg, hj]
 have hold : (Builtin.firstCells i0.size i (.slice (some ⟨g, 0, none⟩) i cap)).run Tryz.prog w.drew = .ok (inner.take (i)).toArray w.drew := by
  rw [hzs]
  refine run_firstCells_some w.drew 1 i ⟨g, 0, none⟩ i cap (inner.take (i)) (by rw [List.length_take, hil]; omega) (fun j v hj => ?_)
  rw [hadd, Nat.zero_add]
  have hji : j < i := by have := (List.getElem?_eq_some_iff.1 hj).1; rw [List.length_take] at this; omega
  rw [List.getElem?_take_of_lt hji] at hj
  exact hgc _ _ hj
 obtain ⟨G, hG⟩ : ∃ G, G = grownCap w (n + 1) cap 9 := ⟨_, rfl⟩
 have hGn : n + 1 ≤ G := by rw [hG]; exact grownCap_ge w _ _ _
 have hG63 : G ≤ maxLen := by rw [hG]; exact grownCap_le_maxLen w (n + 1) cap 9 (by unfold maxLen; omega)
 obtain ⟨ROW, hROW⟩ : ∃ ROW : Array Value, ROW = (inner.take (i)).toArray ++ Builtin.zeroCells ((.string ⟨#[]⟩) : Value).cells (n + 1 - i) ++ Builtin.zeroCells ((.string ⟨#[]⟩) : Value).cells (G - (n + 1)) := ⟨_, rfl⟩
 obtain ⟨Zs, hZs⟩ : ∃ Zs : List Value, Zs = (Builtin.zeroCells ((.string ⟨#[]⟩) : Value).cells (n + 1 - i) ++ Builtin.zeroCells ((.string ⟨#[]⟩) : Value).cells (G - (n + 1))).toList := ⟨_, rfl⟩
 have hzl : Zs.length = (G - i) := by rw [hZs]; simp [Builtin.zeroCells, Value.cells]; omega
 have eR : ROW.toList = inner.take (i) ++ Zs := by rw [hROW, hZs]; simp
 have hRs : ROW.size = G := by rw [← Array.length_toList, eR, List.length_append, hzl, List.length_take, hil]; omega
 obtain ⟨hL1, hL2, hL3⟩ := grow_list Zs inner c (n) (i) (i + 1) (n + 1) 1 (by omega) (by omega) hil (by omega) hcl (by rw [hzl]; omega)
 obtain ⟨cur1, hcur1⟩ : ∃ cur1 : Array Value, cur1 = (ROW.toList.take (i) ++ c ++ ROW.toList.drop (i + c.length)).toArray := ⟨_, rfl⟩
 have e1 : cur1.toList = ROW.toList.take (i) ++ c ++ ROW.toList.drop (i + c.length) := by rw [hcur1]
 have hs1 : cur1.size = G := by rw [← Array.length_toList, e1, eR, hL1, ← eR, Array.length_toList, hRs]
 obtain ⟨cur2, hcur2⟩ : ∃ cur2 : Array Value, cur2 = (cur1.toList.take (i + 1) ++ inner.drop (i) ++ cur1.toList.drop (i + 1 + (inner.drop (i)).length)).toArray := ⟨_, rfl⟩
 have e2 : cur2.toList = cur1.toList.take (i + 1) ++ inner.drop (i) ++ cur1.toList.drop (i + 1 + (inner.drop (i)).length) := by rw [hcur2]
 have hs2 : cur2.size = G := by rw [← Array.length_toList, e2, e1, eR, hL2, ← eR, Array.length_toList, hRs]
 have ht2 : cur2.toList.take (n + 1) = inner.take (i) ++ c ++ inner.drop (i) := by rw [e2, e1, eR]; exact hL3
 -- the three events
 obtain ⟨W1, hW1⟩ : ∃ W1, W1 = w.drew.alloc (.cells ROW 9) := ⟨_, rfl⟩
 have hrz : ∀ ty, (Builtin.append_ #[61, 3] ty #[.slice (some ⟨g, 0, none⟩) i cap, .int .i64 ((n : Int) + 1 - (i : Int))]).run Tryz.prog w = .ok (.slice (some ⟨w.heap.size, 0, none⟩) (n + 1) G) W1 := fun ty => by
  have h := Lib.run_append_grow_zeros w 61 3 ty 9 i0 _ .i64 .i64 hu Tryz.underlying3 hi0 hz0 (some ⟨g, 0, none⟩) i cap (inner.take (i)) hold (n + 1 - i) (by omega) (by omega) (by omega) (by omega) (by rw [hzb]; omega) (by rw [hzb, show i + (n + 1 - i) = n + 1 by omega]; exact growslice_fits (by omega) (by omega))
  rw [show i + (n + 1 - i) = n + 1 by omega, ← hG, ← hROW, ← hW1] at h
  rw [show (n : Int) + 1 - (i : Int) = ((n + 1 - i : Nat) : Int) by omega]
  exact h
 have hg1 : W1.heap[w.heap.size]? = some (.cells ROW 9 (0, 0)) := by rw [hW1]; exact heap_alloc_new w.drew _
 have hk1 : ∀ k, k < w.heap.size → W1.heap[k]? = w.heap[k]? := fun k hk => by rw [hW1]; exact (below_alloc (below_drew (Below.refl w.heap.size w)) _).block k hk
 have hW1g : w.grownBy W1 none := by rw [hW1]; exact ⟨rfl, rfl, rfl, by simp [World.alloc], fun k hk _ => (below_alloc (below_drew (Below.refl w.heap.size w)) _).block k hk⟩
 obtain ⟨W2, hW2⟩ : ∃ W2, W2 = W1.setRow w.heap.size cur1 := ⟨_, rfl⟩
 have hcpA : ∀ ty dc, (Builtin.copy_ #[61, 61] ty #[.slice (some ⟨w.heap.size, i, none⟩) (n + 1 - i) dc, .slice (some va) 1 vc]).run Tryz.prog W1 = .ok (goInt (Nat.min 1 (n + 1 - i))) W2 := fun ty dc => by
  rw [hW2, hcur1]
  exact run_copy_rowS W1 61 61 ty 9 1 w.heap.size (i) (n + 1 - i) dc va 1 vc ROW 9 c hu hsz hg1 (by rw [hcl]; show _ = min _ _ * _; rw [Nat.min_def]; split <;> omega)
   (fun j v hj => by
    have h := hvc j v hj
    have hb : (va.add j).block = va.block := by unfold Addr.add; split <;> rfl
    unfold World.cell? at h ⊢
    rw [hk1 _ (by rw [hb]; exact hvl)]; exact h) (by rw [hcl, hRs]; omega) h1c
 have hg2 : W2.heap[w.heap.size]? = some (.cells cur1 9 (0, 0)) := by rw [hW2]; exact setRow_heap W1 _ ROW cur1 9 (0, 0) hg1
 have hk2 : ∀ k, k < w.heap.size → W2.heap[k]? = w.heap[k]? := fun k hk => by rw [hW2, setRow_other W1 _ k cur1 (by omega)]; exact hk1 k hk
 obtain ⟨W3, hW3⟩ : ∃ W3, W3 = W2.drew.setRow w.heap.size cur2 := ⟨_, rfl⟩
 have hcpB : ∀ ty dc sc, (Builtin.copy_ #[61, 61] ty #[.slice (some ⟨w.heap.size, i + 1, none⟩) (n - i) dc, .slice (some ⟨g, i, none⟩) (n - i) sc]).run Tryz.prog W2.drew = .ok (goInt (Nat.min (n - i) (n - i))) W3 := fun ty dc sc => by
  rw [hW3, hcur2]
  exact run_copy_rowS W2.drew 61 61 ty 9 1 w.heap.size (i + 1) (n - i) dc ⟨g, i, none⟩ (n - i) sc cur1 9 (inner.drop (i)) hu hsz hg2 (by rw [hdl]; show _ = min (n - i) (n - i) * _; omega)
   (fun j v hj => by
    rw [hadd]
    have h := hgc _ v (by rwa [List.getElem?_drop] at hj)
    unfold World.cell? at h ⊢
    show (match W2.heap[g]? with | some (.cells c _ _) => _ | _ => _) = _
    rw [hk2 g hgl]; exact h) (by rw [hdl, hs1]; omega) (fun v hv => h1i v (List.mem_of_mem_drop hv))
 have hg3 : W3.heap[w.heap.size]? = some (.cells cur2 9 (0, 0)) := by rw [hW3]; exact setRow_heap W2.drew _ cur1 cur2 9 (0, 0) hg2
 have hgr : w.grownBy W3 none := by
  rw [hW3]
  refine ⟨?_, ?_, ?_, ?_, fun k hk _ => ?_⟩
  ·rw [setRow_os, hW2]; exact hW1g.os
  ·rw [setRow_tape, hW2]; exact hW1g.tape
  ·rw [setRow_output, hW2]; exact hW1g.output
  ·rw [setRow_size, hW2]; show _ ≤ (W1.setRow _ _).heap.size; rw [setRow_size]; exact hW1g.size
  ·rw [setRow_other W2.drew _ k cur2 (by omega)]; exact hk2 k hk
 have hz1 : ¬ ((1 : Int) = 0) := by omega
 have hz2 : ¬ ((i : Int) = (n : Int)) := by omega
 have hz3 : (cap : Int) < (n : Int) + 1 := by omega
 have hw1 : IntKind.i64.wrap ((i : Int) + 1) = (i : Int) + 1 := by rw [IntKind.wrap_i64]; omega
 have hb1 : (0 : Int) ≤ (i : Int) + 1 := by omega
 have hin : i ≤ n := by omega
 have htn : ((i : Int) + 1).toNat = i + 1 := by omega
 have hb3 : (i : Int) ≤ (n : Int) := by omega
 have hb4 : ¬ (cap = i) := by omega
 have hb6 : (i : Int) ≤ (cap : Int) := by omega
 have hGi : ¬ (G = i) := by omega
 have hGim : ¬ (G = i + 1) := by omega
 have hG63' : G ≤ 9223372036854775807 := by unfold maxLen at hG63; omega
 have hc63 : cap ≤ 9223372036854775807 := by omega
 have HX := Aside0.mk (And.intro hgr (And.intro hg3 (And.intro hGn (And.intro hG63 (And.intro hs2 ht2)))))
 clear hgr hg3 hs2 ht2 hW3 hW2 hW1 hg1 hg2 hk1 hk2 hW1g hcur2 hcur1 e1 e2 eR hL1 hL2 hL3 hs1 hRs hzl hZs hROW hG hold hgc hadd hgl hdl hil hik hcur hvc h1i h1c hG63 hi0 hz0 hzs hzb hcap
 go_enter Tryz.func58, Tryz.ntmps58
 go_wp2_with (first | (simp only [hrz]) | (simp only [hcpA]) | (at_builtin; refine Lib.wpList_append_run _ rfl _ _ _ _ rfl _ _ rfl rfl _ _ (hrz _) ?_) | (at_builtin; refine wpList_copy_runI rfl _ _ 61 61 rfl _ _ rfl rfl (hcpA _ _) ?_))
 go_region_law (refine step_copy_runI rfl _ _ 61 61 rfl _ _ (by simp [Act.eval, Act.put]) (by simp [Act.eval, Act.put]) (hcpB _ _ _) ?_)
 go_wp2
 go_ret
 exact ⟨G, cur2, rfl, HX.out⟩

set_option maxHeartbeats 1000000 in
theorem slices_Insert_string_string.tail (P0_ : Nat → Prop) (u0 : Value) (l0 : List (ByteArray)) (va : Option Addr) (vc : Nat) (x : ByteArray) (w0 w : World) (hB : Below w0.heap.size w0 w) (ho0 : Kd.R Kd.string 9 w w0.heap.size (fun k_ => P0_ k_) u0 l0) (hr : Kd.C Kd.string w va 1 [x]) (hl : l0.length ≤ 1000000000) :
  Calls Tryz.prog 58 #[u0, .int .i64 (l0.length : Nat), .slice va 1 vc] w fun e w' => ∃ v0_ : Value, e = .returned v0_ ∧ Kd.R Kd.string 9 w' w0.heap.size (fun k_ => (P0_ k_ ∨ w.heap.size ≤ k_)) v0_ (l0 ++ [x]) ∧ Below w0.heap.size w0 w' ∧ Kept w w' (fun k_ => P0_ k_) := by
 have HO := Aside0.mk (Kd.R_mono (ok' := fun k_ => (P0_ k_ ∨ w.heap.size ≤ k_)) ho0 (fun _ h => .inl h))
 have HK := Aside0.mk ho0.1
 have HR := Aside0.mk hr
 have HB := Aside0.mk hB
 have hS : w0.heap.size ≤ w.heap.size := hB.size
 have hz1 : ¬ ((1 : Int) = 0) := by omega
 obtain ⟨inner, ho, -⟩ := raw_R free_string ho0
 have hlt := ho.lt
 rcases ho.2 with ⟨rfl, hn0⟩ | ⟨g, cap, cur, rfl, hbg, hg, hnc, hcm, hcs, hct⟩
 ·obtain rfl : l0 = [] := List.eq_nil_of_length_eq_zero hn0
  clear hB ho0 hr ho hn0 hlt
  go_enter Tryz.func58, Tryz.ntmps58
  go_wp2_with (((with_reducible refine gate_builtin (b := .append) (xs := #[.tmp 23, .tmp 24]) rfl ?_); at_builtin; refine Kd.R_append_rows Kd.string (w0 := w0) w0.heap.size rfl (.tmp 23) (.tmp 24) 61 9 (.string ⟨#[]⟩) 16 rfl Tryz.underlying61 info9 rfl (by decide) (by omega) _ [] [x] _ _ _ (fun k_ => (P0_ k_ ∨ w.heap.size ≤ k_)) (fun _ => False) rfl rfl HO.out ?aR (fun _ _ h => h) (fun _ h => h.elim) (fun _ h => .inr h) HB.out hS (by simp) ?_; (case aR => exact HR.out); intro v7 w7 ho hb hg hat; clear HO HB; have HO := Aside0.mk ho; have HB := Aside0.mk hb; have HG := Aside0.mk hg; clear ho hb hg hat))
  go_ret
  exact ⟨_, rfl, HO.out, HB.out, Kept.of_grown HG.out (Kept.refl _ _) (fun k hk => .inl (HK.out k hk))⟩
 ·obtain ⟨n, hn⟩ : ∃ n, n = l0.length := ⟨_, rfl⟩
  rw [← hn] at hnc hl
  have hcm' : cap ≤ 9223372036854775807 := by unfold maxLen at hcm; omega
  rw [← hn]
  have HN := Aside0.mk hn
  have HO' := Aside0.mk (show Kd.R Kd.string 9 w w0.heap.size (fun k_ => (P0_ k_ ∨ w.heap.size ≤ k_)) (.slice (some ⟨g, 0, none⟩) n cap) l0 from by rw [hn]; exact HO.out)
  have HK' := Aside0.mk (show P0_ g from HK.out g rfl)
  clear HO HK
  have HO := HO'
  have HK := HK'
  clear HO' HK' hB ho0 hr ho hlt hg hcs hct hcm hn
  go_enter Tryz.func58, Tryz.ntmps58
  go_wp2_with (((with_reducible refine gate_builtin (b := .append) (xs := #[.tmp 23, .tmp 24]) rfl ?_); at_builtin; refine Kd.R_append_rows Kd.string (w0 := w0) w0.heap.size rfl (.tmp 23) (.tmp 24) 61 9 (.string ⟨#[]⟩) 16 rfl Tryz.underlying61 info9 rfl (by decide) (by omega) _ l0 [x] _ _ _ (fun k_ => (P0_ k_ ∨ w.heap.size ≤ k_)) (fun _ => False) rfl rfl HO.out ?aR (fun _ _ h => h) (fun _ h => h.elim) (fun _ h => .inr h) HB.out hS (by rw [← HN.out]; omega) ?_; (case aR => exact HR.out); intro v7 w7 ho hb hg hat; clear HO HB; have HO := Aside0.mk ho; have HB := Aside0.mk hb; have HG := Aside0.mk hg; clear ho hb hg hat))
  all_goals
   go_ret
   exact ⟨_, rfl, HO.out, HB.out, Kept.of_grown HG.out (Kept.refl _ _) (fun k hk => .inl (by cases hk; exact HK.out))⟩
set_option maxHeartbeats 1000000 in
theorem slices_Insert_string_string.calls (P0_ : Nat → Prop) (u0 : Value) (l0 : List (ByteArray)) (a1 : Int) (A2 : Option Addr) (c2 : Nat) (l2 : List (ByteArray)) (r : List (ByteArray)) (w0 : World) (w : World) (hB : Below w0.heap.size w0 w) (ho0 : Kd.R Kd.string 9 w w0.heap.size (fun k_ => P0_ k_) u0 l0) (hr2 : ∀ W_, Kept w W_ (fun k_ => P0_ k_) → Kd.C Kd.string W_ A2 l2.length l2) (hc2 : l2.length ≤ c2) (h : slices_Insert_string_string.f l0 a1 l2 = some r) :
  Calls Tryz.prog 58 #[u0, .int .i64 a1, .slice A2 l2.length c2] w fun e w' => ∃ v0_ : Value, e = .returned v0_ ∧ Kd.R Kd.string 9 w' w0.heap.size (fun k_ => (P0_ k_ ∨ w.heap.size ≤ k_)) v0_ r ∧ Below w0.heap.size w0 w' ∧ Kept w w' (fun k_ => P0_ k_) := by
 unfold slices_Insert_string_string.f at h
 split at h
 case isFalse => cases h
 rename_i hh
 obtain ⟨hl, h0, h1, h2⟩ := hh
 obtain rfl := Option.some.inj h
 obtain ⟨i, rfl⟩ : ∃ i : Nat, a1 = (i : Int) := ⟨a1.toNat, by omega⟩
 obtain ⟨x, rfl⟩ := List.length_eq_one_iff.1 h2
 rw [Int.toNat_natCast]
 have hr := hr2 w (Kept.refl _ _)
 by_cases hi : i < l0.length
 case neg =>
  obtain rfl : i = l0.length := by omega
  rw [List.take_length, List.drop_length, List.append_nil]
  exact slices_Insert_string_string.tail P0_ u0 l0 A2 c2 x w0 w hB ho0 hr hl
 obtain ⟨va, c, rfl, hcl, hcr, hvc⟩ := raw_C1 free_string hr
 change c.length = 1 at hcl
 obtain ⟨inner, ho, hir⟩ := raw_R free_string ho0
 have h1i := reps_one (fr_one free_string) (by decide) hir
 have h1c := reps_one (fr_one free_string) (by decide) hcr
 rcases ho.2 with ⟨rfl, hn0⟩ | ⟨g, cap, cur, rfl, hbg, hg, hnc, hcm, hcs, hct⟩
 ·omega
 change cur.size = cap * 1 at hcs
 change cur.toList.take (l0.length * 1) = inner at hct
 try rw [Nat.mul_one] at hcs hct
 have hP : P0_ g := ho0.1 g rfl
 have hgl : g < w.heap.size := (Array.getElem?_eq_some_iff.1 hg).1
 have hcm' : cap ≤ 9223372036854775807 := by unfold maxLen at hcm; omega
 have hk : (Kd.string).sz = 1 := rfl
 have hRep : Reps (Fr Kd.string) 1 (l0.take i ++ [x] ++ l0.drop i) (inner.take (i) ++ c ++ inner.drop (i)) := by
  have h := reps_append (reps_append (reps_take hir i (by omega)) hcr) (reps_drop hir i)
  simp only [hk, Nat.mul_one] at h
  exact h
 have hRl : (l0.take i ++ [x] ++ l0.drop i).length = l0.length + 1 := by simp only [List.length_append, List.length_take, List.length_drop, List.length_cons, List.length_nil]; omega
 have hcz : 0 < c.length := by omega
 have hcell := hvc 0 c[0] (List.getElem?_eq_getElem hcz)
 obtain ⟨ca, tA, fA, hsa, hka⟩ : ∃ (ca : Array Value) (tA : TypeId) (fA : Nat × Nat), w.heap[va.block]? = some (.cells ca tA fA) ∧ ca.size ≠ 0 := by
  have hb : (va.add 0).block = va.block := by unfold Addr.add; split <;> rfl
  unfold World.cell? at hcell
  rw [hb] at hcell
  split at hcell
  case h_2 => cases hcell
  rename_i cs t f hh
  refine ⟨cs, t, f, hh, fun h0 => ?_⟩
  rw [Array.eq_empty_of_size_eq_zero h0] at hcell
  revert hcell
  cases (va.add 0).spot <;> simp
 by_cases hroom : l0.length + 1 ≤ cap
 ·have hva : va.block ≠ g := by
   intro e
   have hkk : Kept w (w.setRow g #[]) (fun k_ => P0_ k_) := Kept.of_grown (grown_setRow w g #[]) (Kept.refl _ _) (fun k hk => .inl (by cases hk; exact hP))
   obtain ⟨ad, c', e', hcl', -, hvc'⟩ := raw_C1 free_string (hr2 _ hkk)
   cases e'
   have hz : 0 < c'.length := by rw [hcl']; decide
   have := hvc' 0 c'[0] (List.getElem?_eq_getElem hz)
   have hb : (va.add 0).block = va.block := by unfold Addr.add; split <;> rfl
   unfold World.cell? at this
   rw [hb, e, setRow_heap w g cur #[] 9 (0, 0) hg] at this
   revert this
   cases (va.add 0).spot <;> simp
  refine (shift_S g l0.length cap i va c2 cur inner c w hg hi hroom hcm' hcs hct hcl hva hvc h1i h1c ca tA fA hsa hka).mono ?_
  rintro e w' ⟨cur2, rfl, rfl, hs2, ht2⟩
  have hgr : w.grownBy (w.drew.setRow g cur2) (some g) := grown_setRowD w g cur2
  refine ⟨_, rfl, R_raw (inner := inner.take (i) ++ c ++ inner.drop (i)) ?_ hRep (fun k hk => .inl ?_), Below.grown hB hgr hB.size (fun k hk => by cases hk; exact hbg), Kept.of_grown hgr (Kept.refl _ _) (fun k hk => .inl (by cases hk; exact hP))⟩
  ·rw [hRl]
   exact ⟨by rw [hRep.1, hRl, hk], .inr ⟨g, cap, cur2, rfl, hbg, setRow_heap w.drew g cur cur2 9 (0, 0) hg, hroom, hcm, by first | exact hs2 | (rw [hk, Nat.mul_one]; exact hs2), by first | exact ht2 | (rw [hk, Nat.mul_one]; exact ht2)⟩⟩
  ·cases hk; exact hP
 ·have hvl : va.block < w.heap.size := (Array.getElem?_eq_some_iff.1 hsa).1
  refine (grow_S g l0.length cap i va c2 cur inner c w hg hi (by omega) hl hcs hct hcl hvc h1i h1c hvl).mono ?_
  rintro e w' ⟨G, cur2, rfl, hgr, hg2, hG1, hG2, hs2, ht2⟩
  refine ⟨_, rfl, R_raw (inner := inner.take (i) ++ c ++ inner.drop (i)) ?_ hRep (fun k hk => .inr ?_), Below.grown hB hgr hB.size (fun k hk => by cases hk), Kept.of_grown hgr (Kept.refl _ _) (fun k hk => by cases hk)⟩
  ·rw [hRl]
   exact ⟨by rw [hRep.1, hRl, hk], .inr ⟨w.heap.size, G, cur2, rfl, hB.size, hg2, hG1, hG2, by first | exact hs2 | (rw [hk, Nat.mul_one]; exact hs2), by first | exact ht2 | (rw [hk, Nat.mul_one]; exact ht2)⟩⟩
  ·cases hk; exact Nat.le_refl _
set_option maxRecDepth 100000 in
set_option maxHeartbeats 4000000 in
theorem slices_Clone_string_string.calls (A0 : Option Addr) (c0 : Nat) (l0 : List (ByteArray)) (r : List (ByteArray)) (w : World) (hr0 : Kd.C Kd.string w A0 l0.length l0) (hc0 : l0.length ≤ c0) (h : slices_Clone_string_string.f l0 = some r) :
  Calls Tryz.prog 85 #[.slice A0 l0.length c0] w fun e w' => ∃ v0_ : Value, e = .returned v0_ ∧ Kd.R Kd.string 9 w' w.heap.size (fun _ => True) v0_ r ∧ Below w.heap.size w w' := by
 unfold slices_Clone_string_string.f at h
 split at h
 case isFalse => cases h
 rename_i hlen
 obtain rfl := Option.some.inj h
 have HR0 := Aside0.mk hr0
 have HL := Aside0.mk hlen
 have HB := Aside0.mk (Below.refl w.heap.size w)
 have q22 : ∀ (w : World) (a : Option Addr) (n c n' c' : Nat), (binOp .eql 61 (.slice a n c) (.slice none n' c')).run Tryz.prog w = .ok (.bool a.isNone) w := fun w a n c n' c' => Lib.run_eql_slice_nil w _ _ a n c n' c' Tryz.underlying61
 cases A0 with
 | none =>
  have h0 : l0 = [] := by
   cases l0 with
   | nil => rfl
   | cons x t =>
    obtain ⟨ad, e, -⟩ := hr0.2.2 (by simp)
    cases e
  subst h0
  clear hr0 hc0 h hlen HR0
  go_enter Tryz.func85, Tryz.ntmps85
  go_wp2
  go_ret
  exact ⟨_, rfl, Kd.R_nil _ _ _ _ _, HB.out⟩
 | some ad =>
  clear hr0 hc0 h hlen
  go_enter Tryz.func85, Tryz.ntmps85
  go_wp2_with (first
   | ((with_reducible refine gate_dst (N := 5) rfl ?_); refine Kd.R_lit Kd.string (w0 := w) w.heap.size 9 rfl (N := 5) ?hd (xs := ([] : List (ByteArray))) (inner := []) (ok := fun _ => True) (okp := fun _ => True) ?hr ?hp (fun _ hk => hk) trivial HB.out (below_size HB.out) (by simp) ?_; (case hd => rfl); (case hr => first | (go_simp; done) | (go_simp; rfl)); (case hp => exact Reps.none _ _); intro v5 w5 ho hb hg hnew; have HO := Aside0.mk ho; clear HB; have HB := Aside0.mk hb; have HRC := Aside0.mk (Kd.C_below HR0.out HB.out); clear ho hb hg hnew)
   | ((with_reducible refine gate_builtin (b := .append) (xs := #[.tmp 5, .tmp 6]) rfl ?_); at_builtin; refine Kd.R_append_rows Kd.string (w0 := w) w.heap.size rfl (.tmp 5) (.tmp 6) 61 9 (.string ⟨#[]⟩) 16 rfl Tryz.underlying61 info9 rfl (by decide) (by omega) v5 [] l0 _ _ _ (fun _ => True) (fun _ => False) rfl rfl HO.out ?aR (fun _ _ h => h) (fun _ h => h.elim) (fun _ _ => trivial) HB.out (below_size HB.out) (by have := HL.out; simp only [List.length_nil]; omega) ?_; (case aR => exact HRC.out); intro v7 w7 ho hb hg hat; clear HO HB; have HO := Aside0.mk ho; have HB := Aside0.mk hb; clear ho hb hg hat))
  go_ret
  exact ⟨_, rfl, HO.out, HB.out⟩

set_option maxRecDepth 100000 in
set_option maxHeartbeats 4000000 in
/-- i < len(s), and there is room. -/
theorem shift_R (g n cap i : Nat) (va : Addr) (vc : Nat) (cur : Array Value) (inner c : List Value) (w : World) (hg : w.heap[g]? = some (.cells cur 63 (0, 0))) (hi : i < n) (hcap : n + 1 ≤ cap) (hc63 : cap ≤ 9223372036854775807)
  (hcur : cur.size = cap * 2) (hik : cur.toList.take (n * 2) = inner) (hcl : c.length = 2) (hva : va.block ≠ g) (hvc : ∀ j u, c[j]? = some u → w.cell? (va.add j) = some u) (h1i : ∀ u ∈ inner, u.oneCell' = true) (h1c : ∀ u ∈ c, u.oneCell' = true)
  (ca_ : Array Value) (tA : TypeId) (fA : Nat × Nat) (hsa : w.heap[va.block]? = some (.cells ca_ tA fA)) (hka : ca_.size ≠ 0) :
  Calls Tryz.prog 54 #[.slice (some ⟨g, 0, none⟩) n cap, .int .i64 i, .slice (some va) 1 vc] w fun e w' => ∃ cur2 : Array Value, e = .returned (.slice (some ⟨g, 0, none⟩) (n + 1) cap) ∧ w' = w.drew.setRow g cur2 ∧ cur2.size = cap * 2 ∧ cur2.toList.take ((n + 1) * 2) = inner.take (i * 2) ++ c ++ inner.drop (i * 2) := by
 have hu := Tryz.underlying23
 have hsz : (Tryz.prog.info? 63).map (·.size) = some 2 := by kernel_rfl
 have hil : inner.length = n * 2 := by rw [← hik, List.length_take, Array.length_toList, hcur]; omega
 obtain ⟨hL1, hL2, hL3⟩ := ins_list cur.toList inner c (n * 2) (i * 2) ((i + 1) * 2) ((n + 1) * 2) 2 (by omega) (by omega) hik hil (by omega) hcl (by rw [Array.length_toList, hcur]; omega)
 have hdl : (inner.drop (i * 2)).length = ((n - i)) * 2 := by have := @List.length_drop _ (i * 2) inner; omega
 obtain ⟨cur1, hcur1⟩ : ∃ cur1 : Array Value, cur1 = (cur.toList.take ((i + 1) * 2) ++ inner.drop (i * 2) ++ cur.toList.drop ((i + 1) * 2 + (inner.drop (i * 2)).length)).toArray := ⟨_, rfl⟩
 have hs1 : cur1.size = cap * 2 := by rw [hcur1, List.size_toArray, hL1, Array.length_toList, hcur]
 have e1 : cur1.toList = cur.toList.take ((i + 1) * 2) ++ inner.drop (i * 2) ++ cur.toList.drop ((i + 1) * 2 + (inner.drop (i * 2)).length) := by rw [hcur1]
 obtain ⟨cur2, hcur2⟩ : ∃ cur2 : Array Value, cur2 = (cur1.toList.take (i * 2) ++ c ++ cur1.toList.drop (i * 2 + c.length)).toArray := ⟨_, rfl⟩
 have e2 : cur2.toList = cur1.toList.take (i * 2) ++ c ++ cur1.toList.drop (i * 2 + c.length) := by rw [hcur2]
 have hz1 : ¬ ((1 : Int) = 0) := by omega
 have hz2 : ¬ ((i : Int) = (n : Int)) := by omega
 have hadd : ∀ o j, Addr.add ⟨g, o, none⟩ j = ⟨g, o + j, none⟩ := fun o j => Addr.add_lit g o j
 have hgc : ∀ j u, inner[j]? = some u → w.cell? ⟨g, j, none⟩ = some u := fun j u hj => by
  have hjl : j < n * 2 := by have := (List.getElem?_eq_some_iff.1 hj).1; omega
  rw [← hik, List.getElem?_take_of_lt hjl, Array.getElem?_toList] at hj
  simp [World.cell?, hg, hj]
 have hov : ∀ o lb cb, (callFunc 82 #[.slice (some va) 1 vc, .slice (some ⟨g, o, none⟩) lb cb]).run Tryz.prog w = .ok (.value (.bool false)) w := fun o lb cb => by
  rw [run_callFunc_extern Tryz.func82 (by kernel_rfl) (by kernel_rfl) (by kernel_rfl) (e := Extern.SlicesOverlaps.overlaps #[23, 23] #[4]) (by kernel_rfl),
   run_overlaps_own w 23 4 63 hu 2 (by intro w; rfl) va ⟨g, o, none⟩ 1 vc lb cb hva ca_ cur tA 63 fA hsa hg hka]
  rfl
 have hcp1 : ∀ ty dc sc, (Builtin.copy_ #[23, 23] ty #[.slice (some ⟨g, (i + 1) * 2, none⟩) (n - i) dc, .slice (some ⟨g, i * 2, none⟩) (n + 1 - i) sc]).run Tryz.prog w.drew = .ok (goInt (Nat.min (n + 1 - i) (n - i))) (w.drew.setRow g cur1) := fun ty dc sc => by
  rw [hcur1]
  exact run_copy_rowS w.drew 23 23 ty 63 2 g ((i + 1) * 2) (n - i) dc ⟨g, i * 2, none⟩ (n + 1 - i) sc cur 63 (inner.drop (i * 2)) hu hsz hg (by rw [hdl]; show _ = min _ _ * _; rw [Nat.min_def]; split <;> omega)
   (fun j v hj => by rw [hadd]; exact hgc _ _ (by rwa [List.getElem?_drop] at hj)) (by rw [hdl, hcur]; omega) (fun v hv => h1i v (List.mem_of_mem_drop hv))
 have hg1 : (w.drew.setRow g cur1).heap[g]? = some (.cells cur1 63 (0, 0)) := setRow_heap w.drew g cur cur1 63 (0, 0) hg
 have hcp2 : ∀ W, W.heap[g]? = some (.cells cur1 63 (0, 0)) → (∀ k, k ≠ g → W.heap[k]? = w.heap[k]?) → ∀ ty dc, (Builtin.copy_ #[23, 23] ty #[.slice (some ⟨g, i * 2, none⟩) (n + 1 - i) dc, .slice (some va) 1 vc]).run Tryz.prog W = .ok (goInt (Nat.min 1 (n + 1 - i))) (W.setRow g cur2) := fun W hW1 hW2 ty dc => by
  rw [hcur2]
  exact run_copy_rowS W 23 23 ty 63 2 g (i * 2) (n + 1 - i) dc va 1 vc cur1 63 c hu hsz hW1 (by rw [hcl]; show _ = min _ _ * _; rw [Nat.min_def]; split <;> omega)
   (fun j v hj => by
    have h := hvc j v hj
    have hb : (va.add j).block = va.block := by unfold Addr.add; split <;> rfl
    unfold World.cell? at h ⊢
    rw [hW2 _ (by rw [hb]; exact hva)]; exact h) (by rw [hcl, hs1]; omega) h1c
 obtain ⟨W1, hW1⟩ : ∃ W1, W1 = w.drew.setRow g cur1 := ⟨_, rfl⟩
 rw [← hW1] at hcp1 hg1
 have hk1 : ∀ k, k ≠ g → W1.heap[k]? = w.heap[k]? := fun k hk => by rw [hW1]; exact setRow_other w.drew g k cur1 hk
 have hw1 : IntKind.i64.wrap ((i : Int) + 1) = (i : Int) + 1 := by rw [IntKind.wrap_i64]; omega
 have hb1 : (0 : Int) ≤ (i : Int) + 1 := by omega
 have hin : i ≤ n := by omega
 have htn : ((i : Int) + 1).toNat = i + 1 := by omega
 have hb2 : ¬ (cap = i + 1) := by omega
 have hb3 : (i : Int) ≤ (n : Int) + 1 := by omega
 have hb5 : (i : Int) ≤ (n : Int) := by omega
 have hb4 : ¬ (cap = i) := by omega
 have hs2 : cur2.size = cap * 2 := by rw [← Array.length_toList, e2, e1, hL2, Array.length_toList, hcur]
 have ht2 : cur2.toList.take ((n + 1) * 2) = inner.take (i * 2) ++ c ++ inner.drop (i * 2) := by rw [e2, e1]; exact hL3
 have HX := Aside0.mk (And.intro hW1 (And.intro hs2 ht2))
 clear hcur2 e2 hs2 ht2 hW1 hcur1 e1 hL1 hL2 hL3 hik hil hdl hcur hs1 hgc hsz hadd h1i h1c hvc
 go_enter Tryz.func54, Tryz.ntmps54
 go_wp2_with (simp only [hov])
 go_region_law (refine step_copy_runI rfl _ _ 23 23 rfl _ _ (by simp [Act.eval, Act.put]) (by simp [Act.eval, Act.put]) (hcp1 _ _ _) ?_)
 have hcp3 := hcp2 W1 hg1 hk1
 clear hcp1 hcp2
 go_wp2_with (first | (simp only [hcp3]) | (at_builtin; refine wpList_copy_runI rfl _ _ 23 23 rfl _ _ rfl rfl (hcp3 _ _) ?_))
 go_ret
 refine ⟨cur2, rfl, ?_, HX.out.2.1, HX.out.2.2⟩
 rw [HX.out.1, setRow_setRow]

set_option maxRecDepth 100000 in
set_option maxHeartbeats 4000000 in
/-- i < len(s), and there is no room. -/
theorem grow_R (g n cap i : Nat) (va : Addr) (vc : Nat) (cur : Array Value) (inner c : List Value) (w : World) (hg : w.heap[g]? = some (.cells cur 63 (0, 0))) (hi : i < n) (hcap : cap = n) (hn : n ≤ 1000000000)
  (hcur : cur.size = cap * 2) (hik : cur.toList.take (n * 2) = inner) (hcl : c.length = 2) (hvc : ∀ j u, c[j]? = some u → w.cell? (va.add j) = some u) (h1i : ∀ u ∈ inner, u.oneCell' = true) (h1c : ∀ u ∈ c, u.oneCell' = true) (hvl : va.block < w.heap.size) :
  Calls Tryz.prog 54 #[.slice (some ⟨g, 0, none⟩) n cap, .int .i64 i, .slice (some va) 1 vc] w fun e w' => ∃ (G : Nat) (cur2 : Array Value), e = .returned (.slice (some ⟨w.heap.size, 0, none⟩) (n + 1) G) ∧ w.grownBy w' none ∧ w'.heap[w.heap.size]? = some (.cells cur2 63 (0, 0)) ∧ n + 1 ≤ G ∧ G ≤ maxLen ∧ cur2.size = G * 2 ∧ cur2.toList.take ((n + 1) * 2) = inner.take (i * 2) ++ c ++ inner.drop (i * 2) := by
 have hu := Tryz.underlying23
 have hsz : (Tryz.prog.info? 63).map (·.size) = some 2 := by kernel_rfl
 obtain ⟨i0, hi0, hz0, hzs, hzb⟩ : ∃ i0, Tryz.prog.info? 63 = some i0 ∧ i0.zero = some (.agg #[(.string ⟨#[]⟩), (.slice none 0 0)]) ∧ i0.size = 2 ∧ i0.bytes = 40 := by
  have h := info63
  obtain ⟨i0, h1, h2⟩ := Option.map_eq_some_iff.1 h
  injection h2 with h2 h3
  injection h3 with h3 h4
  exact ⟨i0, h1, h2, h3, h4⟩
 have hil : inner.length = n * 2 := by rw [← hik, List.length_take, Array.length_toList, hcur]; omega
 have hdl : (inner.drop (i * 2)).length = ((n - i)) * 2 := by have := @List.length_drop _ (i * 2) inner; omega
 have hgl : g < w.heap.size := (Array.getElem?_eq_some_iff.1 hg).1
 have hadd : ∀ (b o j : Nat), Addr.add ⟨b, o, none⟩ j = ⟨b, o + j, none⟩ := fun b o j => Addr.add_lit b o j
 have hgc : ∀ j u, inner[j]? = some u → w.cell? ⟨g, j, none⟩ = some u := fun j u hj => by
  have hjl : j < n * 2 := by have := (List.getElem?_eq_some_iff.1 hj).1; omega
  rw [← hik, List.getElem?_take_of_lt hjl, Array.getElem?_toList] at hj
  simp [World.cell?, hg, hj]
 have hold : (Builtin.firstCells i0.size i (.slice (some ⟨g, 0, none⟩) i cap)).run Tryz.prog w.drew = .ok (inner.take (i * 2)).toArray w.drew := by
  rw [hzs]
  refine run_firstCells_some w.drew 2 i ⟨g, 0, none⟩ i cap (inner.take (i * 2)) (by rw [List.length_take, hil]; omega) (fun j v hj => ?_)
  rw [hadd, Nat.zero_add]
  have hji : j < i * 2 := by have := (List.getElem?_eq_some_iff.1 hj).1; rw [List.length_take] at this; omega
  rw [List.getElem?_take_of_lt hji] at hj
  exact hgc _ _ hj
 obtain ⟨G, hG⟩ : ∃ G, G = grownCap w (n + 1) cap 63 := ⟨_, rfl⟩
 have hGn : n + 1 ≤ G := by rw [hG]; exact grownCap_ge w _ _ _
 have hG63 : G ≤ maxLen := by rw [hG]; exact grownCap_le_maxLen w (n + 1) cap 63 (by unfold maxLen; omega)
 obtain ⟨ROW, hROW⟩ : ∃ ROW : Array Value, ROW = (inner.take (i * 2)).toArray ++ Builtin.zeroCells ((.agg #[(.string ⟨#[]⟩), (.slice none 0 0)]) : Value).cells (n + 1 - i) ++ Builtin.zeroCells ((.agg #[(.string ⟨#[]⟩), (.slice none 0 0)]) : Value).cells (G - (n + 1)) := ⟨_, rfl⟩
 obtain ⟨Zs, hZs⟩ : ∃ Zs : List Value, Zs = (Builtin.zeroCells ((.agg #[(.string ⟨#[]⟩), (.slice none 0 0)]) : Value).cells (n + 1 - i) ++ Builtin.zeroCells ((.agg #[(.string ⟨#[]⟩), (.slice none 0 0)]) : Value).cells (G - (n + 1))).toList := ⟨_, rfl⟩
 have hzl : Zs.length = ((G - i)) * 2 := by rw [hZs]; simp [Builtin.zeroCells, Value.cells]; omega
 have eR : ROW.toList = inner.take (i * 2) ++ Zs := by rw [hROW, hZs]; simp
 have hRs : ROW.size = G * 2 := by rw [← Array.length_toList, eR, List.length_append, hzl, List.length_take, hil]; omega
 obtain ⟨hL1, hL2, hL3⟩ := grow_list Zs inner c (n * 2) (i * 2) ((i + 1) * 2) ((n + 1) * 2) 2 (by omega) (by omega) hil (by omega) hcl (by rw [hzl]; omega)
 obtain ⟨cur1, hcur1⟩ : ∃ cur1 : Array Value, cur1 = (ROW.toList.take (i * 2) ++ c ++ ROW.toList.drop (i * 2 + c.length)).toArray := ⟨_, rfl⟩
 have e1 : cur1.toList = ROW.toList.take (i * 2) ++ c ++ ROW.toList.drop (i * 2 + c.length) := by rw [hcur1]
 have hs1 : cur1.size = G * 2 := by rw [← Array.length_toList, e1, eR, hL1, ← eR, Array.length_toList, hRs]
 obtain ⟨cur2, hcur2⟩ : ∃ cur2 : Array Value, cur2 = (cur1.toList.take ((i + 1) * 2) ++ inner.drop (i * 2) ++ cur1.toList.drop ((i + 1) * 2 + (inner.drop (i * 2)).length)).toArray := ⟨_, rfl⟩
 have e2 : cur2.toList = cur1.toList.take ((i + 1) * 2) ++ inner.drop (i * 2) ++ cur1.toList.drop ((i + 1) * 2 + (inner.drop (i * 2)).length) := by rw [hcur2]
 have hs2 : cur2.size = G * 2 := by rw [← Array.length_toList, e2, e1, eR, hL2, ← eR, Array.length_toList, hRs]
 have ht2 : cur2.toList.take ((n + 1) * 2) = inner.take (i * 2) ++ c ++ inner.drop (i * 2) := by rw [e2, e1, eR]; exact hL3
 -- the three events
 obtain ⟨W1, hW1⟩ : ∃ W1, W1 = w.drew.alloc (.cells ROW 63) := ⟨_, rfl⟩
 have hrz : ∀ ty, (Builtin.append_ #[23, 3] ty #[.slice (some ⟨g, 0, none⟩) i cap, .int .i64 ((n : Int) + 1 - (i : Int))]).run Tryz.prog w = .ok (.slice (some ⟨w.heap.size, 0, none⟩) (n + 1) G) W1 := fun ty => by
  have h := Lib.run_append_grow_zeros w 23 3 ty 63 i0 _ .i64 .i64 hu Tryz.underlying3 hi0 hz0 (some ⟨g, 0, none⟩) i cap (inner.take (i * 2)) hold (n + 1 - i) (by omega) (by omega) (by omega) (by omega) (by rw [hzb]; omega) (by rw [hzb, show i + (n + 1 - i) = n + 1 by omega]; exact growslice_fits (by omega) (by omega))
  rw [show i + (n + 1 - i) = n + 1 by omega, ← hG, ← hROW, ← hW1] at h
  rw [show (n : Int) + 1 - (i : Int) = ((n + 1 - i : Nat) : Int) by omega]
  exact h
 have hg1 : W1.heap[w.heap.size]? = some (.cells ROW 63 (0, 0)) := by rw [hW1]; exact heap_alloc_new w.drew _
 have hk1 : ∀ k, k < w.heap.size → W1.heap[k]? = w.heap[k]? := fun k hk => by rw [hW1]; exact (below_alloc (below_drew (Below.refl w.heap.size w)) _).block k hk
 have hW1g : w.grownBy W1 none := by rw [hW1]; exact ⟨rfl, rfl, rfl, by simp [World.alloc], fun k hk _ => (below_alloc (below_drew (Below.refl w.heap.size w)) _).block k hk⟩
 obtain ⟨W2, hW2⟩ : ∃ W2, W2 = W1.setRow w.heap.size cur1 := ⟨_, rfl⟩
 have hcpA : ∀ ty dc, (Builtin.copy_ #[23, 23] ty #[.slice (some ⟨w.heap.size, i * 2, none⟩) (n + 1 - i) dc, .slice (some va) 1 vc]).run Tryz.prog W1 = .ok (goInt (Nat.min 1 (n + 1 - i))) W2 := fun ty dc => by
  rw [hW2, hcur1]
  exact run_copy_rowS W1 23 23 ty 63 2 w.heap.size (i * 2) (n + 1 - i) dc va 1 vc ROW 63 c hu hsz hg1 (by rw [hcl]; show _ = min _ _ * _; rw [Nat.min_def]; split <;> omega)
   (fun j v hj => by
    have h := hvc j v hj
    have hb : (va.add j).block = va.block := by unfold Addr.add; split <;> rfl
    unfold World.cell? at h ⊢
    rw [hk1 _ (by rw [hb]; exact hvl)]; exact h) (by rw [hcl, hRs]; omega) h1c
 have hg2 : W2.heap[w.heap.size]? = some (.cells cur1 63 (0, 0)) := by rw [hW2]; exact setRow_heap W1 _ ROW cur1 63 (0, 0) hg1
 have hk2 : ∀ k, k < w.heap.size → W2.heap[k]? = w.heap[k]? := fun k hk => by rw [hW2, setRow_other W1 _ k cur1 (by omega)]; exact hk1 k hk
 obtain ⟨W3, hW3⟩ : ∃ W3, W3 = W2.drew.setRow w.heap.size cur2 := ⟨_, rfl⟩
 have hcpB : ∀ ty dc sc, (Builtin.copy_ #[23, 23] ty #[.slice (some ⟨w.heap.size, (i + 1) * 2, none⟩) (n - i) dc, .slice (some ⟨g, i * 2, none⟩) (n - i) sc]).run Tryz.prog W2.drew = .ok (goInt (Nat.min (n - i) (n - i))) W3 := fun ty dc sc => by
  rw [hW3, hcur2]
  exact run_copy_rowS W2.drew 23 23 ty 63 2 w.heap.size ((i + 1) * 2) (n - i) dc ⟨g, i * 2, none⟩ (n - i) sc cur1 63 (inner.drop (i * 2)) hu hsz hg2 (by rw [hdl]; show _ = min (n - i) (n - i) * _; omega)
   (fun j v hj => by
    rw [hadd]
    have h := hgc _ v (by rwa [List.getElem?_drop] at hj)
    unfold World.cell? at h ⊢
    show (match W2.heap[g]? with | some (.cells c _ _) => _ | _ => _) = _
    rw [hk2 g hgl]; exact h) (by rw [hdl, hs1]; omega) (fun v hv => h1i v (List.mem_of_mem_drop hv))
 have hg3 : W3.heap[w.heap.size]? = some (.cells cur2 63 (0, 0)) := by rw [hW3]; exact setRow_heap W2.drew _ cur1 cur2 63 (0, 0) hg2
 have hgr : w.grownBy W3 none := by
  rw [hW3]
  refine ⟨?_, ?_, ?_, ?_, fun k hk _ => ?_⟩
  ·rw [setRow_os, hW2]; exact hW1g.os
  ·rw [setRow_tape, hW2]; exact hW1g.tape
  ·rw [setRow_output, hW2]; exact hW1g.output
  ·rw [setRow_size, hW2]; show _ ≤ (W1.setRow _ _).heap.size; rw [setRow_size]; exact hW1g.size
  ·rw [setRow_other W2.drew _ k cur2 (by omega)]; exact hk2 k hk
 have hz1 : ¬ ((1 : Int) = 0) := by omega
 have hz2 : ¬ ((i : Int) = (n : Int)) := by omega
 have hz3 : (cap : Int) < (n : Int) + 1 := by omega
 have hw1 : IntKind.i64.wrap ((i : Int) + 1) = (i : Int) + 1 := by rw [IntKind.wrap_i64]; omega
 have hb1 : (0 : Int) ≤ (i : Int) + 1 := by omega
 have hin : i ≤ n := by omega
 have htn : ((i : Int) + 1).toNat = i + 1 := by omega
 have hb3 : (i : Int) ≤ (n : Int) := by omega
 have hb4 : ¬ (cap = i) := by omega
 have hb6 : (i : Int) ≤ (cap : Int) := by omega
 have hGi : ¬ (G = i) := by omega
 have hGim : ¬ (G = i + 1) := by omega
 have hG63' : G ≤ 9223372036854775807 := by unfold maxLen at hG63; omega
 have hc63 : cap ≤ 9223372036854775807 := by omega
 have HX := Aside0.mk (And.intro hgr (And.intro hg3 (And.intro hGn (And.intro hG63 (And.intro hs2 ht2)))))
 clear hgr hg3 hs2 ht2 hW3 hW2 hW1 hg1 hg2 hk1 hk2 hW1g hcur2 hcur1 e1 e2 eR hL1 hL2 hL3 hs1 hRs hzl hZs hROW hG hold hgc hadd hgl hdl hil hik hcur hvc h1i h1c hG63 hi0 hz0 hzs hzb hcap
 go_enter Tryz.func54, Tryz.ntmps54
 go_wp2_with (first | (simp only [hrz]) | (simp only [hcpA]) | (at_builtin; refine Lib.wpList_append_run _ rfl _ _ _ _ rfl _ _ rfl rfl _ _ (hrz _) ?_) | (at_builtin; refine wpList_copy_runI rfl _ _ 23 23 rfl _ _ rfl rfl (hcpA _ _) ?_))
 go_region_law (refine step_copy_runI rfl _ _ 23 23 rfl _ _ (by simp [Act.eval, Act.put]) (by simp [Act.eval, Act.put]) (hcpB _ _ _) ?_)
 go_wp2
 go_ret
 exact ⟨G, cur2, rfl, HX.out⟩

set_option maxHeartbeats 1000000 in
theorem rowI.tail (P0_ : Nat → Prop) (u0 : Value) (l0 : List ((List Value))) (va : Option Addr) (vc : Nat) (x : (List Value)) (w0 w : World) (hB : Below w0.heap.size w0 w) (ho0 : Kd.R (Kd.raw 2) 63 w w0.heap.size (fun k_ => P0_ k_) u0 l0) (hr : Kd.C (Kd.raw 2) w va 1 [x]) (hl : l0.length ≤ 1000000000) :
  Calls Tryz.prog 54 #[u0, .int .i64 (l0.length : Nat), .slice va 1 vc] w fun e w' => ∃ v0_ : Value, e = .returned v0_ ∧ Kd.R (Kd.raw 2) 63 w' w0.heap.size (fun k_ => (P0_ k_ ∨ w.heap.size ≤ k_)) v0_ (l0 ++ [x]) ∧ Below w0.heap.size w0 w' ∧ Kept w w' (fun k_ => P0_ k_) := by
 have HO := Aside0.mk (Kd.R_mono (ok' := fun k_ => (P0_ k_ ∨ w.heap.size ≤ k_)) ho0 (fun _ h => .inl h))
 have HK := Aside0.mk ho0.1
 have HR := Aside0.mk hr
 have HB := Aside0.mk hB
 have hS : w0.heap.size ≤ w.heap.size := hB.size
 have hz1 : ¬ ((1 : Int) = 0) := by omega
 obtain ⟨inner, ho, -⟩ := raw_R free_raw ho0
 have hlt := ho.lt
 rcases ho.2 with ⟨rfl, hn0⟩ | ⟨g, cap, cur, rfl, hbg, hg, hnc, hcm, hcs, hct⟩
 ·obtain rfl : l0 = [] := List.eq_nil_of_length_eq_zero hn0
  clear hB ho0 hr ho hn0 hlt
  go_enter Tryz.func54, Tryz.ntmps54
  go_wp2_with (((with_reducible refine gate_builtin (b := .append) (xs := #[.tmp 23, .tmp 24]) rfl ?_); at_builtin; refine Kd.R_append_rows (Kd.raw 2) (w0 := w0) w0.heap.size rfl (.tmp 23) (.tmp 24) 23 63 (.agg #[(.string ⟨#[]⟩), (.slice none 0 0)]) 40 rfl Tryz.underlying23 info63 rfl (by decide) (by omega) _ [] [x] _ _ _ (fun k_ => (P0_ k_ ∨ w.heap.size ≤ k_)) (fun _ => False) rfl rfl HO.out ?aR (fun _ _ h => h) (fun _ h => h.elim) (fun _ h => .inr h) HB.out hS (by simp) ?_; (case aR => exact HR.out); intro v7 w7 ho hb hg hat; clear HO HB; have HO := Aside0.mk ho; have HB := Aside0.mk hb; have HG := Aside0.mk hg; clear ho hb hg hat))
  go_ret
  exact ⟨_, rfl, HO.out, HB.out, Kept.of_grown HG.out (Kept.refl _ _) (fun k hk => .inl (HK.out k hk))⟩
 ·obtain ⟨n, hn⟩ : ∃ n, n = l0.length := ⟨_, rfl⟩
  rw [← hn] at hnc hl
  have hcm' : cap ≤ 9223372036854775807 := by unfold maxLen at hcm; omega
  rw [← hn]
  have HN := Aside0.mk hn
  have HO' := Aside0.mk (show Kd.R (Kd.raw 2) 63 w w0.heap.size (fun k_ => (P0_ k_ ∨ w.heap.size ≤ k_)) (.slice (some ⟨g, 0, none⟩) n cap) l0 from by rw [hn]; exact HO.out)
  have HK' := Aside0.mk (show P0_ g from HK.out g rfl)
  clear HO HK
  have HO := HO'
  have HK := HK'
  clear HO' HK' hB ho0 hr ho hlt hg hcs hct hcm hn
  go_enter Tryz.func54, Tryz.ntmps54
  go_wp2_with (((with_reducible refine gate_builtin (b := .append) (xs := #[.tmp 23, .tmp 24]) rfl ?_); at_builtin; refine Kd.R_append_rows (Kd.raw 2) (w0 := w0) w0.heap.size rfl (.tmp 23) (.tmp 24) 23 63 (.agg #[(.string ⟨#[]⟩), (.slice none 0 0)]) 40 rfl Tryz.underlying23 info63 rfl (by decide) (by omega) _ l0 [x] _ _ _ (fun k_ => (P0_ k_ ∨ w.heap.size ≤ k_)) (fun _ => False) rfl rfl HO.out ?aR (fun _ _ h => h) (fun _ h => h.elim) (fun _ h => .inr h) HB.out hS (by rw [← HN.out]; omega) ?_; (case aR => exact HR.out); intro v7 w7 ho hb hg hat; clear HO HB; have HO := Aside0.mk ho; have HB := Aside0.mk hb; have HG := Aside0.mk hg; clear ho hb hg hat))
  all_goals
   go_ret
   exact ⟨_, rfl, HO.out, HB.out, Kept.of_grown HG.out (Kept.refl _ _) (fun k hk => .inl (by cases hk; exact HK.out))⟩
set_option maxHeartbeats 1000000 in
theorem rowI.calls (P0_ : Nat → Prop) (u0 : Value) (l0 : List ((List Value))) (a1 : Int) (A2 : Option Addr) (c2 : Nat) (l2 : List ((List Value))) (r : List ((List Value))) (w0 : World) (w : World) (hB : Below w0.heap.size w0 w) (ho0 : Kd.R (Kd.raw 2) 63 w w0.heap.size (fun k_ => P0_ k_) u0 l0) (hr2 : ∀ W_, Kept w W_ (fun k_ => P0_ k_) → Kd.C (Kd.raw 2) W_ A2 l2.length l2) (hc2 : l2.length ≤ c2) (h : rowI.f l0 a1 l2 = some r) :
  Calls Tryz.prog 54 #[u0, .int .i64 a1, .slice A2 l2.length c2] w fun e w' => ∃ v0_ : Value, e = .returned v0_ ∧ Kd.R (Kd.raw 2) 63 w' w0.heap.size (fun k_ => (P0_ k_ ∨ w.heap.size ≤ k_)) v0_ r ∧ Below w0.heap.size w0 w' ∧ Kept w w' (fun k_ => P0_ k_) := by
 unfold rowI.f at h
 split at h
 case isFalse => cases h
 rename_i hh
 obtain ⟨hl, h0, h1, h2⟩ := hh
 obtain rfl := Option.some.inj h
 obtain ⟨i, rfl⟩ : ∃ i : Nat, a1 = (i : Int) := ⟨a1.toNat, by omega⟩
 obtain ⟨x, rfl⟩ := List.length_eq_one_iff.1 h2
 rw [Int.toNat_natCast]
 have hr := hr2 w (Kept.refl _ _)
 by_cases hi : i < l0.length
 case neg =>
  obtain rfl : i = l0.length := by omega
  rw [List.take_length, List.drop_length, List.append_nil]
  exact rowI.tail P0_ u0 l0 A2 c2 x w0 w hB ho0 hr hl
 obtain ⟨va, c, rfl, hcl, hcr, hvc⟩ := raw_C1 free_raw hr
 change c.length = 2 at hcl
 obtain ⟨inner, ho, hir⟩ := raw_R free_raw ho0
 have h1i := reps_one (fr_one free_raw) (by decide) hir
 have h1c := reps_one (fr_one free_raw) (by decide) hcr
 rcases ho.2 with ⟨rfl, hn0⟩ | ⟨g, cap, cur, rfl, hbg, hg, hnc, hcm, hcs, hct⟩
 ·omega
 change cur.size = cap * 2 at hcs
 change cur.toList.take (l0.length * 2) = inner at hct
 try rw [Nat.mul_one] at hcs hct
 have hP : P0_ g := ho0.1 g rfl
 have hgl : g < w.heap.size := (Array.getElem?_eq_some_iff.1 hg).1
 have hcm' : cap ≤ 9223372036854775807 := by unfold maxLen at hcm; omega
 have hk : ((Kd.raw 2)).sz = 2 := rfl
 have hRep : Reps (Fr (Kd.raw 2)) 2 (l0.take i ++ [x] ++ l0.drop i) (inner.take (i * 2) ++ c ++ inner.drop (i * 2)) := by
  have h := reps_append (reps_append (reps_take hir i (by omega)) hcr) (reps_drop hir i)
  simp only [hk, Nat.mul_one] at h
  exact h
 have hRl : (l0.take i ++ [x] ++ l0.drop i).length = l0.length + 1 := by simp only [List.length_append, List.length_take, List.length_drop, List.length_cons, List.length_nil]; omega
 have hcz : 0 < c.length := by omega
 have hcell := hvc 0 c[0] (List.getElem?_eq_getElem hcz)
 obtain ⟨ca, tA, fA, hsa, hka⟩ : ∃ (ca : Array Value) (tA : TypeId) (fA : Nat × Nat), w.heap[va.block]? = some (.cells ca tA fA) ∧ ca.size ≠ 0 := by
  have hb : (va.add 0).block = va.block := by unfold Addr.add; split <;> rfl
  unfold World.cell? at hcell
  rw [hb] at hcell
  split at hcell
  case h_2 => cases hcell
  rename_i cs t f hh
  refine ⟨cs, t, f, hh, fun h0 => ?_⟩
  rw [Array.eq_empty_of_size_eq_zero h0] at hcell
  revert hcell
  cases (va.add 0).spot <;> simp
 by_cases hroom : l0.length + 1 ≤ cap
 ·have hva : va.block ≠ g := by
   intro e
   have hkk : Kept w (w.setRow g #[]) (fun k_ => P0_ k_) := Kept.of_grown (grown_setRow w g #[]) (Kept.refl _ _) (fun k hk => .inl (by cases hk; exact hP))
   obtain ⟨ad, c', e', hcl', -, hvc'⟩ := raw_C1 free_raw (hr2 _ hkk)
   cases e'
   have hz : 0 < c'.length := by rw [hcl']; decide
   have := hvc' 0 c'[0] (List.getElem?_eq_getElem hz)
   have hb : (va.add 0).block = va.block := by unfold Addr.add; split <;> rfl
   unfold World.cell? at this
   rw [hb, e, setRow_heap w g cur #[] 63 (0, 0) hg] at this
   revert this
   cases (va.add 0).spot <;> simp
  refine (shift_R g l0.length cap i va c2 cur inner c w hg hi hroom hcm' hcs hct hcl hva hvc h1i h1c ca tA fA hsa hka).mono ?_
  rintro e w' ⟨cur2, rfl, rfl, hs2, ht2⟩
  have hgr : w.grownBy (w.drew.setRow g cur2) (some g) := grown_setRowD w g cur2
  refine ⟨_, rfl, R_raw (inner := inner.take (i * 2) ++ c ++ inner.drop (i * 2)) ?_ hRep (fun k hk => .inl ?_), Below.grown hB hgr hB.size (fun k hk => by cases hk; exact hbg), Kept.of_grown hgr (Kept.refl _ _) (fun k hk => .inl (by cases hk; exact hP))⟩
  ·rw [hRl]
   exact ⟨by rw [hRep.1, hRl, hk], .inr ⟨g, cap, cur2, rfl, hbg, setRow_heap w.drew g cur cur2 63 (0, 0) hg, hroom, hcm, by first | exact hs2 | (rw [hk, Nat.mul_one]; exact hs2), by first | exact ht2 | (rw [hk, Nat.mul_one]; exact ht2)⟩⟩
  ·cases hk; exact hP
 ·have hvl : va.block < w.heap.size := (Array.getElem?_eq_some_iff.1 hsa).1
  refine (grow_R g l0.length cap i va c2 cur inner c w hg hi (by omega) hl hcs hct hcl hvc h1i h1c hvl).mono ?_
  rintro e w' ⟨G, cur2, rfl, hgr, hg2, hG1, hG2, hs2, ht2⟩
  refine ⟨_, rfl, R_raw (inner := inner.take (i * 2) ++ c ++ inner.drop (i * 2)) ?_ hRep (fun k hk => .inr ?_), Below.grown hB hgr hB.size (fun k hk => by cases hk), Kept.of_grown hgr (Kept.refl _ _) (fun k hk => by cases hk)⟩
  ·rw [hRl]
   exact ⟨by rw [hRep.1, hRl, hk], .inr ⟨w.heap.size, G, cur2, rfl, hB.size, hg2, hG1, hG2, by first | exact hs2 | (rw [hk, Nat.mul_one]; exact hs2), by first | exact ht2 | (rw [hk, Nat.mul_one]; exact ht2)⟩⟩
  ·cases hk; exact Nat.le_refl _
set_option maxRecDepth 100000 in
set_option maxHeartbeats 4000000 in
theorem rowC.calls (A0 : Option Addr) (c0 : Nat) (l0 : List ((List Value))) (r : List ((List Value))) (w : World) (hr0 : Kd.C (Kd.raw 2) w A0 l0.length l0) (hc0 : l0.length ≤ c0) (h : rowC.f l0 = some r) :
  Calls Tryz.prog 84 #[.slice A0 l0.length c0] w fun e w' => ∃ v0_ : Value, e = .returned v0_ ∧ Kd.R (Kd.raw 2) 63 w' w.heap.size (fun _ => True) v0_ r ∧ Below w.heap.size w w' := by
 unfold rowC.f at h
 split at h
 case isFalse => cases h
 rename_i hlen
 obtain rfl := Option.some.inj h
 have HR0 := Aside0.mk hr0
 have HL := Aside0.mk hlen
 have HB := Aside0.mk (Below.refl w.heap.size w)
 have q22 : ∀ (w : World) (a : Option Addr) (n c n' c' : Nat), (binOp .eql 23 (.slice a n c) (.slice none n' c')).run Tryz.prog w = .ok (.bool a.isNone) w := fun w a n c n' c' => Lib.run_eql_slice_nil w _ _ a n c n' c' Tryz.underlying23
 cases A0 with
 | none =>
  have h0 : l0 = [] := by
   cases l0 with
   | nil => rfl
   | cons x t =>
    obtain ⟨ad, e, -⟩ := hr0.2.2 (by simp)
    cases e
  subst h0
  clear hr0 hc0 h hlen HR0
  go_enter Tryz.func84, Tryz.ntmps84
  go_wp2
  go_ret
  exact ⟨_, rfl, Kd.R_nil _ _ _ _ _, HB.out⟩
 | some ad =>
  clear hr0 hc0 h hlen
  go_enter Tryz.func84, Tryz.ntmps84
  go_wp2_with (first
   | ((with_reducible refine gate_dst (N := 5) rfl ?_); refine Kd.R_lit (Kd.raw 2) (w0 := w) w.heap.size 63 rfl (N := 5) ?hd (xs := ([] : List ((List Value)))) (inner := []) (ok := fun _ => True) (okp := fun _ => True) ?hr ?hp (fun _ hk => hk) trivial HB.out (below_size HB.out) (by simp) ?_; (case hd => rfl); (case hr => first | (go_simp; done) | (go_simp; rfl)); (case hp => exact Reps.none _ _); intro v5 w5 ho hb hg hnew; have HO := Aside0.mk ho; clear HB; have HB := Aside0.mk hb; have HRC := Aside0.mk (Kd.C_below HR0.out HB.out); clear ho hb hg hnew)
   | ((with_reducible refine gate_builtin (b := .append) (xs := #[.tmp 5, .tmp 6]) rfl ?_); at_builtin; refine Kd.R_append_rows (Kd.raw 2) (w0 := w) w.heap.size rfl (.tmp 5) (.tmp 6) 23 63 (.agg #[(.string ⟨#[]⟩), (.slice none 0 0)]) 40 rfl Tryz.underlying23 info63 rfl (by decide) (by omega) v5 [] l0 _ _ _ (fun _ => True) (fun _ => False) rfl rfl HO.out ?aR (fun _ _ h => h) (fun _ h => h.elim) (fun _ _ => trivial) HB.out (below_size HB.out) (by have := HL.out; simp only [List.length_nil]; omega) ?_; (case aR => exact HRC.out); intro v7 w7 ho hb hg hat; clear HO HB; have HO := Aside0.mk ho; have HB := Aside0.mk hb; clear ho hb hg hat))
  go_ret
  exact ⟨_, rfl, HO.out, HB.out⟩
/-! #### rows of their own (tally.own) -/
theorem rawC_of {w : World} {A : Option Addr} {n : Nat} {l : List S63} (h : Kd.C k63 w A n l) : ∃ rows : List (List Value), rows.length = n ∧ Kd.C (Kd.raw 2) w A n rows ∧ ∀ (t : Nat) x c, l[t]? = some x → rows[t]? = some c → k63.K w x c := by
 obtain ⟨hl, h63, hc⟩ := h
 by_cases hn : 0 < n
 case neg => exact ⟨[], by simp; omega, ⟨by simp; omega, h63, fun h => absurd h hn⟩, fun t x c _ h => by simp at h⟩
 obtain ⟨ad, e, hc⟩ := hc hn
 have key : ∀ j : Nat, ∃ c : List Value, ∀ p, l[j]? = some p → c.length = 2 ∧ k63.K w p c ∧ ∀ i u, c[i]? = some u → w.cell? (ad.add (j * 2 + i)) = some u := by
  intro j
  cases hj : l[j]? with
  | none => exact ⟨[], fun p h => by cases h⟩
  | some p =>
   obtain ⟨c, h1, h2, h3⟩ := hc j p hj
   exact ⟨c, fun q hq => by cases hq; exact ⟨h1, h2, h3⟩⟩
 obtain ⟨f, hf⟩ := Classical.axiomOfChoice key
 have hget : ∀ (t : Nat) c, ((List.range n).map f)[t]? = some c → t < n ∧ c = f t := by
  intro t c hc
  rw [List.getElem?_map] at hc
  obtain ⟨x, hx, rfl⟩ := Option.map_eq_some_iff.1 hc
  have h2 := List.getElem?_eq_some_iff.1 hx
  obtain ⟨h3, h4⟩ := h2
  rw [List.length_range] at h3
  rw [List.getElem_range] at h4
  exact ⟨h3, by rw [h4]⟩
 refine ⟨(List.range n).map f, by simp, ⟨by simp, h63, fun _ => ⟨ad, e, fun j p hj => ?_⟩⟩, fun t x c hx hc => ?_⟩
 ·obtain ⟨hjn, rfl⟩ := hget j p hj
  obtain ⟨h1, h2, h3⟩ := hf j l[j] (List.getElem?_eq_getElem (by omega))
  exact ⟨f j, h1, ⟨rfl, h1, k63.K_one h2⟩, h3⟩
 ·obtain ⟨-, rfl⟩ := hget t c hc
  exact (hf t x hx).2.1
theorem C_of_raw {w : World} {A : Option Addr} {n : Nat} {rows : List (List Value)} {l : List S63} (h : Kd.C (Kd.raw 2) w A n rows) (hl : l.length = n) (hK : ∀ (t : Nat) x c, l[t]? = some x → rows[t]? = some c → k63.K w x c) : Kd.C k63 w A n l := by
 obtain ⟨h1, h63, hc⟩ := h
 refine ⟨hl, h63, fun hn => ?_⟩
 obtain ⟨ad, e, hc⟩ := hc hn
 refine ⟨ad, e, fun j p hj => ?_⟩
 have hjl := (List.getElem?_eq_some_iff.1 hj).1
 obtain ⟨c, hs, ⟨rfl, -, -⟩, hcell⟩ := hc j _ (List.getElem?_eq_getElem (by omega))
 exact ⟨_, hs, hK j p _ hj (List.getElem?_eq_getElem (by omega)), hcell⟩
/-- A block of rows, cell by cell: its paths F, its versions' slices U. -/
def PT (w : World) (base g cap n : Nat) (F U : Nat → Value) : Prop := ∃ cur : Array Value, w.heap[g]? = some (.cells cur 63 (0, 0)) ∧ base ≤ g ∧ n ≤ cap ∧ cap ≤ maxLen ∧ cur.size = cap * 2 ∧ ∀ t, t < n → cur[t * 2]? = some (F t) ∧ cur[t * 2 + 1]? = some (U t)
theorem PT_same {w w' : World} {base g cap n : Nat} {F U : Nat → Value} (h : PT w base g cap n F U) (hh : w'.heap[g]? = w.heap[g]?) : PT w' base g cap n F U := by
 obtain ⟨cur, h1, rest⟩ := h
 exact ⟨cur, hh.trans h1, rest⟩
theorem PT_lt {w : World} {base g cap n : Nat} {F U : Nat → Value} (h : PT w base g cap n F U) : g < w.heap.size := by
 obtain ⟨cur, h1, -⟩ := h
 exact (Array.getElem?_eq_some_iff.1 h1).1
theorem PT_below {w w' : World} {base g cap n : Nat} {F U : Nat → Value} (h : PT w base g cap n F U) (hb : Below w.heap.size w w') : PT w' base g cap n F U := PT_same h (hb.block g (PT_lt h))
theorem PT_far {w : World} {base g cap n : Nat} {F U : Nat → Value} (h : PT w base g cap n F U) {p : Addr} (hp : g ≠ p.block) (u : Value) : PT (w.setCell p u) base g cap n F U := PT_same h (Below.heap_setCell w p u g hp)
theorem PT_cells {w : World} {base g cap n : Nat} {F U : Nat → Value} (h : PT w base g cap n F U) {t : Nat} (ht : t < n) : w.cell? ⟨g, t * 2, none⟩ = some (F t) ∧ w.cell? ⟨g, t * 2 + 1, none⟩ = some (U t) ∧ (∀ i, w.frozen? ⟨g, i, none⟩ = false) := by
 obtain ⟨cur, h1, -, -, -, -, h2⟩ := h
 exact ⟨(blk_cell h1 _).trans (h2 t ht).1, (blk_cell h1 _).trans (h2 t ht).2, fun i => blk_frozen h1 i⟩
/-- The slice of row j is another one now. -/
def upd (U : Nat → Value) (j : Nat) (u : Value) : Nat → Value := fun t => if t = j then u else U t
theorem PT_put {w : World} {base g cap n : Nat} {F U : Nat → Value} (h : PT w base g cap n F U) {j : Nat} (hj : j < n) (u : Value) : PT (w.setCell ⟨g, j * 2 + 1, none⟩ u) base g cap n F (upd U j u) := by
 obtain ⟨cur, h1, hb, hn, hm, hs, h2⟩ := h
 refine ⟨cur.setIfInBounds (j * 2 + 1) u, blk_put h1 (j * 2 + 1) u rfl, hb, hn, hm, by rw [Array.size_setIfInBounds]; exact hs, fun t ht => ?_⟩
 have hlt : j * 2 + 1 < cur.size := by omega
 unfold upd
 rw [Array.getElem?_setIfInBounds, Array.getElem?_setIfInBounds, if_neg (by omega)]
 refine ⟨(h2 t ht).1, ?_⟩
 by_cases e : t = j
 ·subst e
  rw [if_pos rfl, if_pos rfl]
  simp [hlt]
 ·rw [if_neg (by omega), if_neg e]
  exact (h2 t ht).2
theorem PT_of {w : World} {base g cap n : Nat} {ok : Nat → Prop} {rows : List (List Value)} (h : Kd.R (Kd.raw 2) 63 w base ok (.slice (some ⟨g, 0, none⟩) n cap) rows) (hn : rows.length = n) (F U : Nat → Value) (hF : ∀ t, t < n → rows[t]? = some [F t, U t]) : PT w base g cap n F U := by
 obtain ⟨inner, ho, hr⟩ := raw_R free_raw h
 rcases ho.2 with ⟨hv, -⟩ | ⟨g', cap', cur, hv, hbg, hg, hnc, hcm, hcs, hct⟩
 ·cases hv
 injection hv with ha _ hc
 injection ha with ha
 injection ha with ha
 subst ha; subst hc
 change cur.size = cap * 2 at hcs
 change cur.toList.take (rows.length * 2) = inner at hct
 refine ⟨cur, hg, hbg, by omega, hcm, hcs, fun t ht => ?_⟩
 have hp := hr.2 t _ (hF t ht)
 have hp2 : (inner.drop (t * 2)).take 2 = [F t, U t] := (hp w 0 (fun _ => True)).1
 have h0 : ((inner.drop (t * 2)).take 2)[0]? = some (F t) := by rw [hp2]; rfl
 have h1 : ((inner.drop (t * 2)).take 2)[1]? = some (U t) := by rw [hp2]; rfl
 rw [List.getElem?_take_of_lt (by omega), List.getElem?_drop, ← hct, List.getElem?_take_of_lt (by omega), Array.getElem?_toList] at h0 h1
 exact ⟨h0, h1⟩
theorem PT_raw {w : World} {base g cap n : Nat} {ok : Nat → Prop} {F U : Nat → Value} (h : PT w base g cap n F U) (hok : ok g) (h1F : ∀ t, t < n → (F t).oneCell' = true ∧ (U t).oneCell' = true) : Kd.R (Kd.raw 2) 63 w base ok (.slice (some ⟨g, 0, none⟩) n cap) ((List.range n).map fun t => [F t, U t]) := by
 obtain ⟨cur, hg, hbg, hnc, hcm, hcs, h2⟩ := h
 have hlen : ((List.range n).map fun t => [F t, U t]).length = n := by simp
 refine R_raw (inner := cur.toList.take (n * 2)) ?_ ⟨?_, fun j p hj => ?_⟩ (fun k hk => by simp [Value.ownBlock] at hk; subst hk; exact hok)
 ·rw [hlen]
  exact ⟨by rw [List.length_take, Array.length_toList, hcs]; show min (n * 2) (cap * 2) = n * 2; omega, .inr ⟨g, cap, cur, rfl, hbg, hg, hnc, hcm, hcs, rfl⟩⟩
 ·rw [List.length_take, Array.length_toList, hcs, hlen]; show min (n * 2) (cap * 2) = n * 2; omega
 ·have hj2 := List.getElem?_eq_some_iff.1 hj
  obtain ⟨hjl, hje⟩ := hj2
  have hjn : j < n := by rw [hlen] at hjl; exact hjl
  have hp : p = [F j, U j] := by rw [← hje]; simp
  have hc : ((cur.toList.take (n * 2)).drop (j * 2)).take 2 = [F j, U j] := by
   apply List.ext_getElem?
   intro i
   by_cases hi : i < 2
   ·rw [List.getElem?_take_of_lt hi, List.getElem?_drop, List.getElem?_take_of_lt (by omega), Array.getElem?_toList]
    rcases (show i = 0 ∨ i = 1 by omega) with rfl | rfl
    ·exact (h2 j hjn).1
    ·exact (h2 j hjn).2
   ·rw [List.getElem?_eq_none (by rw [List.length_take]; omega), List.getElem?_eq_none (by simp; omega)]
  show Fr (Kd.raw 2) p (((cur.toList.take (n * 2)).drop (j * 2)).take 2)
  rw [hc]
  subst hp
  exact fun _ _ _ => ⟨rfl, rfl, fun u hu => by
   rcases List.mem_cons.1 hu with rfl | hu
   ·exact (h1F j hjn).1
   ·rw [List.mem_singleton.1 hu]; exact (h1F j hjn).2⟩
theorem PT_base {w : World} {base g cap n : Nat} {F U : Nat → Value} (h : PT w base g cap n F U) : base ≤ g := by
 obtain ⟨_, _, h, _⟩ := h
 exact h
theorem R_PT {w : World} {base base' g cap n : Nat} {F U : Nat → Value} {ok : Nat → Prop} {v : Value} {xs : List ByteArray} (h : Kd.R Kd.string 9 w base' ok v xs) (hp : PT w base g cap n F U) (i : Nat) (z : Value) : Kd.R Kd.string 9 (w.setCell ⟨g, i, none⟩ z) base' ok v xs := by
 obtain ⟨cur, hg, -⟩ := hp
 exact Kd.R_mono (Kd.R_far (p := ⟨g, i, none⟩) (Kd.R_types h hg (by decide)) (fun _ hk => hk.2) _) (fun _ h_ => h_.1)
/-- What own gives: rows of their own, each one's versions in a block of its own. -/
def OWN (w : World) (base : Nat) (v : Value) (l : List S63) (us : Nat → Value) : Prop :=
 ((v = .slice none 0 0 ∧ l = []) ∨ ∃ g cap, v = .slice (some ⟨g, 0, none⟩) l.length cap ∧ PT w base g cap l.length (fun t => .string (rd_T63 l (t : Int)).f0) us) ∧ (∀ t (h : t < l.length), Kd.R Kd.string 9 w base (fun _ => True) (us t) l[t].f1) ∧ ∀ s t, s < t → t < l.length → ∀ k, (us s).ownBlock = some k → (us t).ownBlock ≠ some k
theorem rdR63 (l : List S63) (t : Nat) (h : t < l.length) : rd_T63 l (t : Int) = l[t] := by simp [rd_T63, List.getD_eq_getElem?_getD, h]
set_option maxRecDepth 100000 in
set_option maxHeartbeats 4000000 in
theorem own_calls (A0 : Option Addr) (c0 : Nat) (l : List S63) (w : World) (hr : Kd.C k63 w A0 l.length l) (hc0 : l.length ≤ c0) (hl : l.length ≤ 1000000000) (hv : ∀ x, x ∈ l → x.f1.length ≤ 1000000000) :
  Calls Tryz.prog 55 #[.slice A0 l.length c0] w fun e w' => ∃ v : Value, e = .returned v ∧ (∃ us : Nat → Value, OWN w' w.heap.size v l us) ∧ Below w.heap.size w w' := by
 obtain ⟨rows, hrl, hraw, hK⟩ := rawC_of hr
 have hcl := rowC.calls A0 c0 rows rows w (by rw [hrl]; exact hraw) (by rw [hrl]; exact hc0) (by unfold rowC.f; rw [if_pos (by rw [hrl]; exact hl)])
 rw [hrl] at hcl
 have HCL := am hcl
 have HR0 := am hr
 have HL := am hl
 have HV := am hv
 have HK := am hK
 have HRL := am hrl
 have huR := Tryz.underlying63
 have hl63 : l.length ≤ 9223372036854775807 := by omega
 clear hr hc0 hl hv hraw hK hcl hrl
 go_enter Tryz.func55, Tryz.ntmps55
 go_wp2_with (first | (go_at_call 84; refine HCL.out.mono ?_; rintro _ w1 ⟨v, rfl, hR, hb⟩; have HV1 := am hR; have HB := am hb; clear hR hb; obtain ⟨A1, c1, ev⟩ := Kd.R_slice HV1.out; rw [HRL.out] at ev; subst ev))
 have HW := am (show ∀ (W : World) (us : Nat → Value), l = [] → OWN W w.heap.size (.slice none 0 0) l us from fun W us e => ⟨.inl ⟨rfl, e⟩, fun t h => by rw [e] at h; exact absurd h (by simp), fun s t _ h => by rw [e] at h; exact absurd h (by simp)⟩)
 obtain ⟨inner, ho, -⟩ := raw_R free_raw HV1.out
 rcases ho.2 with ⟨hv, hn0⟩ | ⟨g, cap, cur, hv, hbg, -⟩
 ·have he : l = [] := List.eq_nil_of_length_eq_zero (by rw [HRL.out] at hn0; exact hn0)
  injection hv with ha hn hc
  subst ha hc
  have hln : l.length = 0 := by rw [he]; rfl
  rw [hln]
  have HE := am he
  clear ho HV1 hn0 hn he hln HCL HR0 HV HK HRL inner
  go_loopw [9] (fun v9 wr => v9 = .int .i64 0 ∧ Aside0 (Below w.heap.size w wr)) (fun _ _ => 0)
  case atStart => exact ⟨rfl, HB⟩
  case round =>
   clear HB
   obtain ⟨rfl, HB⟩ := hrel
   go_wp2
   go_ret
   exact ⟨_, rfl, ⟨fun _ => .slice none 0 0, HW.out _ _ HE.out⟩, HB.out⟩
 ·injection hv with ha hnn hc
  clear hnn
  subst ha
  obtain rfl : cap = c1 := hc.symm
  obtain ⟨F, hF⟩ : ∃ F : Nat → Value, F = fun t => .string (rd_T63 l (t : Int)).f0 := ⟨_, rfl⟩
  obtain ⟨U0, hU0⟩ : ∃ U0 : Nat → Value, U0 = fun t => ((rows.getD t []).getD 1 undef) := ⟨_, rfl⟩
  have hrow : ∀ (t : Nat) (h : t < l.length), ∃ A c, U0 t = .slice A l[t].f1.length c ∧ l[t].f1.length ≤ c ∧ Kd.C Kd.string w A l[t].f1.length l[t].f1 ∧ rows[t]? = some [F t, U0 t] := by
   intro t h
   have hr := List.getElem?_eq_getElem (l := rows) (i := t) (by rw [HRL.out]; exact h)
   obtain ⟨A, c, e, h1, h2⟩ := k63_open (HK.out t l[t] _ (List.getElem?_eq_getElem h) hr)
   have hu : U0 t = .slice A l[t].f1.length c := by rw [hU0]; simp only [List.getD_eq_getElem?_getD, hr, Option.getD_some, e]; rfl
   refine ⟨A, c, hu, h1, h2, ?_⟩
   rw [hr, e, hu, hF]
   simp only [rdR63 l t h]
  have HO := am hrow
  have HPT := am (PT_of HV1.out HRL.out F U0 (fun t h => (hrow t h).choose_spec.choose_spec.2.2.2))
  obtain ⟨ad, had⟩ : ∃ ad, ad = (⟨g, 0, none⟩ : Addr) := ⟨_, rfl⟩
  rw [← had]
  have HAD := am had
  have HFE := am hF
  clear ho HV1 hbg hF hU0 hrow had HCL HK HRL HW inner
  go_loopw [9] (fun v9 wr => ∃ (j : Nat) (jv : Int) (U : Nat → Value), j ≤ l.length ∧ jv = (j : Int) ∧ v9 = .int .i64 jv ∧ Aside0 (PT wr w.heap.size g cap l.length F U) ∧ Aside0 (∀ t (h : t < l.length), t < j → Kd.R Kd.string 9 wr w.heap.size (fun _ => True) (U t) l[t].f1) ∧ Aside0 (∀ t, j ≤ t → U t = U0 t) ∧ Aside0 (∀ s t, s < t → t < j → ∀ k, (U s).ownBlock = some k → (U t).ownBlock ≠ some k) ∧ Aside0 (Below w.heap.size w wr)) (fun v9 _ => l.length - (intOf v9).toNat)
  case atStart => exact ⟨0, 0, U0, by omega, rfl, rfl, HPT, ⟨fun t _ h => by omega⟩, ⟨fun _ _ => rfl⟩, ⟨fun s t _ h => by omega⟩, HB⟩
  case round =>
   clear HPT HB
   obtain ⟨j, jv, U, hj, hjv, rfl, HPT, HS, HU, HA, HB⟩ := hrel
   by_cases hlt : j < l.length
   case neg =>
    have hnl : ¬ (jv < (l.length : Int)) := by omega
    obtain rfl : j = l.length := by omega
    clear hjv hj hlt
    go_wp2
    go_ret
    exact ⟨_, rfl, ⟨U, .inr ⟨g, cap, by rw [HAD.out]; rfl, by rw [← HFE.out]; exact HPT.out⟩, fun t h => HS.out t h h, HA.out⟩, HB.out⟩
   case pos =>
    have p0 := eq_true (show (0 : Int) ≤ jv by omega)
    have q0 := eq_true (show jv < (l.length : Int) by omega)
    obtain ⟨x, hxe⟩ : ∃ x, x = l[j] := ⟨_, rfl⟩
    obtain ⟨A', c', hU, hlc, hC, -⟩ := HO.out j hlt
    rw [← HU.out j (Nat.le_refl _)] at hU
    rw [← hxe] at hU hlc hC
    have hFj : F j = .string x.f0 := by rw [HFE.out, hxe]; simp only [rdR63 l j hlt]
    have HPA := am (show ∀ (W : World), PT W w.heap.size g cap l.length F U → W.cell? (ad.add (jv.toNat * 2)) = some (.string x.f0) ∧ W.cell? ⟨(ad.add (jv.toNat * 2)).block, (ad.add (jv.toNat * 2)).off + 1, none⟩ = some (.slice A' x.f1.length c') ∧ W.frozen? ⟨(ad.add (jv.toNat * 2)).block, (ad.add (jv.toNat * 2)).off + 1, none⟩ = false from fun W h => by
     obtain ⟨h0, h1, h2⟩ := PT_cells h hlt
     rw [HAD.out, Addr.add_lit, hjv, Int.toNat_natCast, Nat.zero_add]
     rw [hFj] at h0
     rw [hU] at h1
     exact ⟨h0, h1, h2 _⟩)
    have HADD := am (show (⟨(ad.add (jv.toNat * 2)).block, (ad.add (jv.toNat * 2)).off + 1, none⟩ : Addr) = ⟨g, j * 2 + 1, none⟩ by rw [HAD.out, Addr.add_lit, hjv, Int.toNat_natCast, Nat.zero_add])
    obtain ⟨hx0, hx1, hxf⟩ := HPA.out _ HPT.out
    have HXE := am (show ∀ h : j < l.length, x = l[j] from fun _ => hxe)
    have Hjv := am hjv
    have Hlt := am hlt
    have HLC := am hlc
    have HC := am hC
    have HUj := am hU
    have HVX := am (HV.out x (by rw [hxe]; exact List.getElem_mem hlt))
    clear hjv hj hlc hC hU hFj hxe hlt
    go_wp2_with (first
     | ((with_reducible refine gtD 4 ?_); refine xBx 4 63 #[.string ⟨#[]⟩, .slice none 0 0] ?_; intro g9 hg w9 hbox hb; have GE := am (gTx hg HB.out); have NE := am (show g ≠ g9 by rw [hg]; exact Nat.ne_of_lt (PT_lt HPT.out)); have BK := am hbox; replace HPT := am (PT_below HPT.out hb); replace HS := am (fun t h ht => Kd.R_below (HS.out t h ht) hb); replace HB := am (below_step HB.out hb); clear hb hbox hg; obtain ⟨b0, b1, b2, b3⟩ := bxB BK; obtain ⟨hx0, hx1, hxf⟩ := HPA.out _ HPT.out)
     | ((with_reducible refine gate_store (t := 63) (p := 4) rfl ?_); refine store_event (t := 63) (p := 4) (v := ?vo) (w1 := ((w9.setCell ⟨g9, 0, none⟩ (.string x.f0)).setCell ⟨g9, 1, none⟩ (.slice A' x.f1.length c'))) ?hg ?ho ?hn ?hr ?_; (case ho => rfl); (case hg => rfl); (case hn => rfl); (case hr => first | (go_simp; done) | (go_simp; rfl)); intro w10 hw; have n0_ : Aside0 (w10.heap[g9]? = some (.cells #[.string x.f0, .slice A' x.f1.length c'] 63 (0, 0))) := ⟨by rw [hw]; exact kBk⟩; replace HPT := am (show PT w10 w.heap.size g cap l.length F U by rw [hw]; exact PT_far (PT_far HPT.out NE.out _) NE.out _); replace HS := am (fun t h ht => show Kd.R Kd.string 9 w10 w.heap.size (fun _ => True) (U t) (l[t]'h).f1 by rw [hw]; exact Kd.R_mono (Kd.R_far (p := ⟨g9, 1, none⟩) (Kd.R_far (p := ⟨g9, 0, none⟩) (Kd.R_types (HS.out t h ht) BK.out (by decide)) (fun _ hk => hk.2) _) (fun _ hk => hk.2) _) (fun _ h_ => h_.1)); replace HB := am (show Below w.heap.size w w10 by rw [hw]; exact below_set (below_set HB.out GE.out) GE.out); clear hw BK b0 b1 b2 b3; have BK := n0_; clear n0_; obtain ⟨b0, b1, b2, b3⟩ := bxB BK; obtain ⟨hx0, hx1, hxf⟩ := HPA.out _ HPT.out)
     | (go_at_call 85; refine (slices_Clone_string_string.calls A' c' x.f1 x.f1 _ (Kd.C_below HC.out HB.out) HLC.out (by unfold slices_Clone_string_string.f; rw [if_pos HVX.out])).mono ?_; rintro _ w12 ⟨u, rfl, hu, hb⟩; obtain ⟨Au, cu, rfl⟩ := Kd.R_slice hu; have HNU := am hu; have HAP := am (fun s (h : s < l.length) (hs : s < j) k (hk : (U s).ownBlock = some k) => show (Value.slice Au x.f1.length cu).ownBlock ≠ some k from fun e => absurd (Kd.R_base hu k e) (Nat.not_le.2 (Kd.R_lt (HS.out s h hs) k hk))); replace HNU := am (Kd.R_lower HNU.out (below_size HB.out)); replace HPT := am (PT_below HPT.out hb); replace HS := am (fun t h ht => Kd.R_below (HS.out t h ht) hb); replace HB := am (below_step HB.out hb); clear hb hu BK b0 b1 b2 b3; obtain ⟨hx0, hx1, hxf⟩ := HPA.out _ HPT.out))
    have hw1 : wrap64 (jv + 1) = ((j + 1 : Nat) : Int) := by have := Hjv.out; have := Hlt.out; have := HL.out; unfold wrap64; omega
    rw [HADD.out]
    refine ⟨⟨j + 1, wrap64 (jv + 1), upd U j (.slice Au x.f1.length cu), by have := Hlt.out; omega, hw1, rfl, ⟨PT_put HPT.out Hlt.out _⟩, ⟨fun t h ht => ?_⟩, ⟨fun t ht => ?_⟩, ⟨fun s t hs ht k hk => ?_⟩, ⟨below_set HB.out (PT_base HPT.out)⟩⟩, ?_⟩
    ·unfold upd
     by_cases e : t = j
     ·subst e
      rw [if_pos rfl, ← HXE.out h]
      exact R_PT HNU.out HPT.out _ _
     ·rw [if_neg e]
      exact R_PT (HS.out t h (by omega)) HPT.out _ _
    ·unfold upd
     rw [if_neg (by omega)]
     exact HU.out t (by omega)
    ·unfold upd at hk ⊢
     rw [if_neg (by omega)] at hk
     by_cases e : t = j
     ·rw [if_pos e]
      exact HAP.out s (by have := Hlt.out; omega) (by omega) k hk
     ·rw [if_neg e]
      exact HA.out s t hs (by omega) k hk
    ·show l.length - (wrap64 (jv + 1)).toNat < l.length - jv.toNat
     have := Hjv.out
     have := Hlt.out
     omega
/-! #### where a version stands (slices.BinarySearchFunc with order) -/
/-- How each version lies to q. -/
def ordsF (k : Nat) (q : ByteArray) : List ByteArray → Option (List Int)
 | [] => some []
 | v :: l => (tally_order.f k v q).bind fun c => (ordsF k q l).bind fun cs => some (c :: cs)
theorem ordsF_mono (k : Nat) (q : ByteArray) : ∀ l, LeO (ordsF k q l) (ordsF (k + 1) q l)
 | [] => LeO.refl _
 | _ :: l => LeO.bind (tally_order.mono _ _ _) fun _ => LeO.bind (ordsF_mono k q l) fun _ => LeO.refl _
theorem ordsF_at {k : Nat} {q : ByteArray} : ∀ {l : List ByteArray} {cs : List Int}, ordsF k q l = some cs → cs.length = l.length ∧ ∀ (i : Nat) (h : i < l.length), tally_order.f k l[i] q = some (cs.getD i 0)
 | [], cs, h => by obtain rfl := Option.some.inj h; exact ⟨rfl, fun i h => absurd h (Nat.not_lt_zero _)⟩
 | v :: l, cs, h => by
  obtain ⟨c, hc, h⟩ := Option.bind_eq_some_iff.1 h
  obtain ⟨ds, hd, h⟩ := Option.bind_eq_some_iff.1 h
  obtain rfl := Option.some.inj h
  obtain ⟨h1, h2⟩ := ordsF_at hd
  refine ⟨by rw [List.length_cons, List.length_cons, h1], fun i hi => ?_⟩
  cases i with
  | zero => exact hc
  | succ i => exact h2 i (by simpa using hi)
def bsGoI (cs : List Int) : Nat → Nat → Nat → Nat
 | 0, i, _ => i
 | n + 1, i, j => if i < j then (if cs.getD ((i + j) / 2) 0 < 0 then bsGoI cs n ((i + j) / 2 + 1) j else bsGoI cs n i ((i + j) / 2)) else i
def bsI (cs : List Int) : Nat := bsGoI cs cs.length 0 cs.length
def hasI (cs : List Int) : Bool := decide (bsI cs < cs.length) && (cs.getD (bsI cs) 0 == 0)
theorem bsGoI_ge (cs : List Int) (i j : Nat) (h : ¬ i < j) : ∀ n, bsGoI cs n i j = i
 | 0 => rfl
 | n + 1 => by rw [bsGoI, if_neg h]
set_option maxRecDepth 100000 in
set_option maxHeartbeats 4000000 in
theorem bsV_calls (k : Nat) (A0 : Option Addr) (c0 : Nat) (l : List ByteArray) (cs : List Int) (q : ByteArray) (w : World) (hr : Kd.C Kd.string w A0 l.length l) (hl : l.length ≤ 1000000000) (ho : ordsF k q l = some cs) :
  Calls Tryz.prog 56 #[.slice A0 l.length c0, .string q, .func (.func 57) #[] #[]] w fun e w' => e = .returned (.tuple #[.int .i64 (bsI cs : Int), .bool (hasI cs)]) ∧ Below w.heap.size w w' := by
 have HR0 := Aside0.mk hr
 have HL := Aside0.mk hl
 obtain ⟨hcl, hca⟩ := ordsF_at ho
 have HCL := am hcl
 have HCA := am hca
 have HB := am (Below.refl w.heap.size w)
 have hl63 : l.length ≤ 9223372036854775807 := by omega
 clear hr hl ho hcl hca
 go_enter Tryz.func56, Tryz.ntmps56
 go_wp2
 go_loopg [9, 10] l.length (fun kq v9 v10 wr => ∃ (i j : Nat), v9 = .int .i64 (i : Int) ∧ v10 = .int .i64 (j : Int) ∧ i ≤ l.length ∧ j ≤ l.length ∧ Aside0 (j ≤ i + kq) ∧ Aside0 (bsGoI cs kq i j = bsI cs) ∧ Aside0 (Below w.heap.size w wr))
 case atStart => exact ⟨0, l.length, rfl, rfl, by omega, by omega, ⟨by omega⟩, ⟨by unfold bsI; rw [HCL.out]⟩, HB⟩
 case round =>
  clear HB
  obtain ⟨i, j, rfl, rfl, hi, hj, HK, HE, HB⟩ := hrel
  by_cases hij : i < j
  case pos =>
   obtain ⟨h, hh⟩ : ∃ h, h = (i + j) / 2 := ⟨_, rfl⟩
   have hhl : h < l.length := by omega
   have hb1 := HL.out
   have hw : wrap64 (IntKind.u64.wrap (wrap64 ((i : Int) + (j : Int))) / 2) = (h : Int) := by
    have e1 : wrap64 ((i : Int) + (j : Int)) = (i : Int) + (j : Int) := by unfold wrap64; omega
    have e2 : IntKind.u64.wrap ((i : Int) + (j : Int)) = (i : Int) + (j : Int) := by rw [IntKind.wrap_u64]; omega
    rw [e1, e2, hh]
    unfold wrap64
    omega
   have hh0 := eq_true (show (0 : Int) ≤ (h : Int) by omega)
   have hhI := eq_true (show (h : Int) < (l.length : Int) by omega)
   have hhN := eq_true hhl
   have HIL : Aside0 (h < l.length) := ⟨hhl⟩
   have HH := Aside0.mk hh
   have HIJ := Aside0.mk hij
   have Hi := Aside0.mk hi
   have Hj := Aside0.mk hj
   have HHJ : Aside0 (i ≤ h ∧ h < j) := ⟨by omega⟩
   clear hh hhl hb1 hi hj
   have hijI : (i : Int) < (j : Int) := by have := HIJ.out; omega
   clear hij
   go_upto_region 5 with (fail)
   rw [hw]
   clear hw
   obtain ⟨ad, ead, hx0⟩ := Kd.at_string (Kd.C_below HR0.out HB.out) (h : Int) (by omega) (by have := HIL.out; omega)
   cases ead
   rw [Int.toNat_natCast] at hx0
   have HRD := am (show rdOf ByteArray.empty l (h : Int) = l[h]'HIL.out by simp [rdOf, List.getD_eq_getElem?_getD, HIL.out])
   rw [HRD.out] at hx0
   obtain ⟨xr, hxr⟩ : ∃ xr, xr = l[h]'HIL.out := ⟨_, rfl⟩
   rw [← hxr] at hx0
   obtain ⟨ch, hch⟩ : ∃ ch, ch = cs.getD h 0 := ⟨_, rfl⟩
   have HOR := am (show tally_order.f k xr q = some ch by rw [hxr, hch]; exact HCA.out h HIL.out)
   have HXE := Aside0.mk hch
   clear hxr hch HRD
   go_wp2_with (fail)
   refine (tally_order.calls k xr q ch _ HOR.out).mono ?_
   rintro e w5 ⟨rfl, hb⟩
   replace HB := am (below_step HB.out hb)
   clear hb
   by_cases hc : ch < 0
   ·have HCc := Aside0.mk hc
    have hd := decide_eq_true hc
    clear hc
    go_wp2
    go_roundg (gk - 1)
    case measure => have := HK.out; have := HIJ.out; omega
    case rel =>
     refine ⟨h + 1, j, by rw [show wrap64 ((h : Int) + 1) = ((h + 1 : Nat) : Int) by have := HIL.out; have := HL.out; unfold wrap64; omega], rfl, by have := HIL.out; omega, Hj.out, ⟨by have := HK.out; have := HHJ.out; omega⟩, ⟨?_⟩, HB⟩
     have he := HE.out
     obtain ⟨n, hn⟩ : ∃ n, gk = n + 1 := ⟨gk - 1, by have := HK.out; have := HIJ.out; omega⟩
     rw [hn, bsGoI, if_pos HIJ.out, ← HH.out, if_pos (by rw [← HXE.out]; exact HCc.out)] at he
     rw [hn]; exact he
   ·have HCc := Aside0.mk hc
    have hd := decide_eq_false hc
    clear hc
    go_wp2
    go_roundg (gk - 1)
    case measure => have := HK.out; have := HIJ.out; omega
    case rel =>
     refine ⟨i, h, rfl, rfl, Hi.out, by have := HIL.out; omega, ⟨by have := HK.out; have := HHJ.out; omega⟩, ⟨?_⟩, HB⟩
     have he := HE.out
     obtain ⟨n, hn⟩ : ∃ n, gk = n + 1 := ⟨gk - 1, by have := HK.out; have := HIJ.out; omega⟩
     rw [hn, bsGoI, if_pos HIJ.out, ← HH.out, if_neg (by rw [← HXE.out]; exact Int.not_lt.2 HCc.out)] at he
     rw [hn]; exact he
  case neg =>
   have hbs : bsI cs = i := by rw [← HE.out, bsGoI_ge cs i j hij]
   have HBS := Aside0.mk hbs
   have hijI : ¬ ((i : Int) < (j : Int)) := by omega
   have Hi := Aside0.mk hi
   clear hbs hij hi hj HK HE
   by_cases hin : i < l.length
   case pos =>
    have HIL := Aside0.mk hin
    have hinI := eq_true (show (i : Int) < (l.length : Int) by omega)
    have hi0 := eq_true (show (0 : Int) ≤ (i : Int) by omega)
    have hiN := eq_true hin
    clear hin
    obtain ⟨ad, ead, hx0⟩ := Kd.at_string (Kd.C_below HR0.out HB.out) (i : Int) (by omega) (by have := HIL.out; omega)
    cases ead
    rw [Int.toNat_natCast] at hx0
    have HRD := am (show rdOf ByteArray.empty l (i : Int) = l[i]'HIL.out by simp [rdOf, List.getD_eq_getElem?_getD, HIL.out])
    rw [HRD.out] at hx0
    obtain ⟨xr, hxr⟩ : ∃ xr, xr = l[i]'HIL.out := ⟨_, rfl⟩
    rw [← hxr] at hx0
    obtain ⟨ch, hch⟩ : ∃ ch, ch = cs.getD i 0 := ⟨_, rfl⟩
    have HOR := am (show tally_order.f k xr q = some ch by rw [hxr, hch]; exact HCA.out i HIL.out)
    have HXE := Aside0.mk hch
    clear hxr hch HRD
    go_wp2_with (fail)
    refine (tally_order.calls k xr q ch _ HOR.out).mono ?_
    rintro e w5 ⟨rfl, hb⟩
    replace HB := am (below_step HB.out hb)
    clear hb
    go_wp2
    go_ret2
    refine ⟨?_, HB.out⟩
    have e1 : hasI cs = (ch == 0) := by
     unfold hasI
     rw [HBS.out, decide_eq_true (by rw [HCL.out]; exact HIL.out), Bool.true_and, ← HXE.out]
    rw [HBS.out, e1]
    rfl
   case neg =>
    have hinI : ¬ ((i : Int) < (l.length : Int)) := by omega
    have hil : i = l.length := by have := Hi.out; omega
    have HIL := Aside0.mk hin
    clear hin hil
    go_wp2
    go_ret2
    refine ⟨?_, HB.out⟩
    have e1 : hasI cs = false := by
     unfold hasI
     rw [HBS.out, decide_eq_false (by rw [HCL.out]; exact HIL.out), Bool.false_and]
    rw [HBS.out, e1]
    rfl
/-! #### Add -/
def okA (l : List S63) : Bool := decide (l.length ≤ 1000000000) && l.all fun x => decide (x.f1.length ≤ 1000000000)
theorem okA_len {l : List S63} (h : okA l = true) : l.length ≤ 1000000000 := by
  unfold okA at h
  rw [Bool.and_eq_true, decide_eq_true_eq] at h
  exact h.1
theorem okA_row {l : List S63} (h : okA l = true) (x : S63) (hx : x ∈ l) : x.f1.length ≤ 1000000000 := by
  unfold okA at h
  rw [Bool.and_eq_true, List.all_eq_true] at h
  exact of_decide_eq_true (h.2 x hx)
def addNew (l : List S63) (i : Nat) (p v : ByteArray) : List S63 := l.take i ++ (⟨p, [v]⟩ : S63) :: l.drop i
def insV (vs : List ByteArray) (k : Nat) (v : ByteArray) : List ByteArray := vs.take k ++ [v] ++ vs.drop k
def addTo (l : List S63) (i k : Nat) (v : ByteArray) : List S63 := l.set i ⟨(rd_T63 l (i : Int)).f0, insV (rd_T63 l (i : Int)).f1 k v⟩
def tally_Add.f (k : Nat) (l0 : List (S63)) (a1_0 : ByteArray) (a1_1 : ByteArray) : Option (List (S63) × Int) := if okA l0 = true then (tally_Check.f k l0).bind fun e => (if e = 0 then (node_May.f k a1_0 a1_1).bind fun m => (if m = true then (if hasR l0 a1_0 = true then (ordsF k a1_1 (rd_T63 l0 (bsR l0 a1_0 : Int)).f1).bind fun cs => (if hasI cs = true then some (l0, 3) else some (addTo l0 (bsR l0 a1_0) (bsI cs) a1_1, 0)) else some (addNew l0 (bsR l0 a1_0) a1_0 a1_1, 0)) else some (l0, 1)) else some (l0, 1)) else none
theorem tally_Add.mono : ∀ a0 a1 a2 k, LeO (tally_Add.f k a0 a1 a2) (tally_Add.f (k + 1) a0 a1 a2) := fun _ _ _ k => LeO.ite (LeO.bind (tally_Check.mono _ _) fun _ => LeO.ite (LeO.bind (node_May.mono _ _ _) fun _ => LeO.ite (LeO.ite (LeO.bind (ordsF_mono k _ _) fun _ => LeO.refl _) (LeO.refl _)) (LeO.refl _)) (LeO.refl _)) (LeO.none _)
theorem bsGo_le (l : List S63) (p : ByteArray) : ∀ n i j, i ≤ j → bsGo l p n i j ≤ j
  | 0, i, j, h => h
  | n + 1, i, j, h => by
    rw [bsGo]
    split
    · split
      · exact bsGo_le l p n _ _ (by omega)
      · exact Nat.le_trans (bsGo_le l p n _ _ (by omega)) (by omega)
    · exact h
theorem bsR_le (l : List S63) (p : ByteArray) : bsR l p ≤ l.length := bsGo_le l p _ _ _ (Nat.zero_le _)
theorem bsGoI_le (cs : List Int) : ∀ n i j, i ≤ j → bsGoI cs n i j ≤ j
  | 0, i, j, h => h
  | n + 1, i, j, h => by
    rw [bsGoI]
    split
    · split
      · exact bsGoI_le cs n _ _ (by omega)
      · exact Nat.le_trans (bsGoI_le cs n _ _ (by omega)) (by omega)
    · exact h
theorem bsI_le (cs : List Int) : bsI cs ≤ cs.length := bsGoI_le cs _ _ _ (Nat.zero_le _)
/-- A row with its versions' slice, as cells. -/
def cellP (q : S63 × Value) : List Value := [.string q.1.f0, q.2]
theorem addV {w : World} {base : Nat} {v : Value} {ok : Nat → Prop} {PL : List (S63 × Value)} (hR : Kd.R (Kd.raw 2) 63 w base ok v (PL.map cellP)) (hq : ∀ q, q ∈ PL → Kd.R Kd.string 9 w base (fun _ => True) q.2 q.1.f1) : Kd.V k63 63 w base (fun k => base ≤ k) v (PL.map Prod.fst) := by
  have hty := Kd.R_typed hR
  have hb := Kd.R_base hR
  obtain ⟨A, c, rfl⟩ := Kd.R_slice hR
  have hl : (PL.map cellP).length = (PL.map Prod.fst).length := by simp
  have hN : Kd.N k63 63 w base (fun k => base ≤ k) (.slice A (PL.map cellP).length c) (PL.map Prod.fst) := ⟨fun k hk => hb k hk, PL.map cellP, hl, Kd.raw_tight hR, fun j x cc hx hc => by
    rw [List.getElem?_map] at hx hc
    obtain ⟨q, hqj, rfl⟩ := Option.map_eq_some_iff.1 hx
    rw [hqj] at hc
    obtain rfl := Option.some.inj hc
    have hu := hq q (List.mem_of_getElem? hqj)
    have hu2 := Kd.R_apart' (Kd.R_mono (ok' := fun k => base ≤ k) (Kd.R_bound hu) (fun k hk => hk.2.1)) hty (by decide)
    obtain ⟨A1, c1, e1⟩ := Kd.R_slice hu
    unfold cellP
    rw [e1] at hu2 ⊢
    exact k63_mkF _ _ q.1 (Kd.R_reads' hu2).2.1 (Kd.R_F hu2)⟩
  have hlc := (Kd.R_reads' hR).2.1
  rw [hl] at hN hlc
  exact ⟨A, c, by rw [hl], hlc, Kd.N_F hN⟩
def plO (l : List S63) (us : Nat → Value) : List (S63 × Value) := (List.range l.length).map fun t : Nat => (rd_T63 l (t : Int), us t)
theorem plO_fst (l : List S63) (us : Nat → Value) : (plO l us).map Prod.fst = l := by
  unfold plO
  apply List.ext_getElem?
  intro t
  rw [List.map_map, List.getElem?_map]
  by_cases h : t < l.length
  · rw [List.getElem?_range h, List.getElem?_eq_getElem h]
    simp only [Option.map_some, Function.comp, rdR63 l t h]
  · rw [List.getElem?_eq_none (by rw [List.length_range]; omega), List.getElem?_eq_none (by omega)]; rfl
theorem plO_mem {l : List S63} {us : Nat → Value} {q : S63 × Value} (h : q ∈ plO l us) : ∃ (t : Nat) (ht : t < l.length), q = (l[t], us t) := by
  unfold plO at h
  obtain ⟨t, ht, rfl⟩ := List.mem_map.1 h
  rw [List.mem_range] at ht
  exact ⟨t, ht, by rw [rdR63 l t ht]⟩
theorem plO_raw {w : World} {base g cap : Nat} {l : List S63} {us : Nat → Value} (h : PT w base g cap l.length (fun t => .string (rd_T63 l (t : Int)).f0) us) (h1 : ∀ t, t < l.length → (us t).oneCell' = true) : Kd.R (Kd.raw 2) 63 w base (fun k => k = g) (.slice (some ⟨g, 0, none⟩) l.length cap) ((plO l us).map cellP) := by
  have hr := PT_raw (ok := fun k => k = g) h rfl (fun t ht => ⟨rfl, h1 t ht⟩)
  unfold plO
  rw [List.map_map]
  exact hr
theorem OWN_PL {w : World} {base : Nat} {v : Value} {l : List S63} {us : Nat → Value} (h : OWN w base v l us) : Kd.R (Kd.raw 2) 63 w base (fun k => some k = v.ownBlock) v ((plO l us).map cellP) ∧ ∀ q, q ∈ plO l us → Kd.R Kd.string 9 w base (fun _ => True) q.2 q.1.f1 := by
  obtain ⟨h1, h2, -⟩ := h
  refine ⟨?_, fun q hq => ?_⟩
  · rcases h1 with ⟨rfl, rfl⟩ | ⟨g, cap, rfl, hp⟩
    · exact Kd.R_nil _ _ _ _ _
    · exact Kd.R_mono (plO_raw hp (fun t ht => (Kd.R_val (h2 t ht)).2)) (fun k hk => by subst hk; simp [Value.ownBlock])
  · obtain ⟨t, ht, rfl⟩ := plO_mem hq
    exact h2 t ht
theorem OWN_below {w w' : World} {base : Nat} {v : Value} {l : List S63} {us : Nat → Value} (h : OWN w base v l us) (hb : Below w.heap.size w w') : OWN w' base v l us := by
  obtain ⟨h1, h2, h3⟩ := h
  refine ⟨h1.imp id ?_, fun t ht => Kd.R_below (h2 t ht) hb, h3⟩
  rintro ⟨g, cap, e, hp⟩
  exact ⟨g, cap, e, PT_below hp hb⟩
theorem OWN_lower {w : World} {base base' : Nat} {v : Value} {l : List S63} {us : Nat → Value} (h : OWN w base v l us) (hb : base' ≤ base) : OWN w base' v l us := by
  obtain ⟨h1, h2, h3⟩ := h
  refine ⟨h1.imp id ?_, fun t ht => Kd.R_lower (h2 t ht) hb, h3⟩
  rintro ⟨g, cap, e, cur, a1, a2, a3⟩
  exact ⟨g, cap, e, cur, a1, by omega, a3⟩
theorem s2K {w W : World} {g : Nat} {t : TypeId} {x y : ByteArray} (BK : Aside0 (w.heap[g]? = some (.cells #[.string x, .string y] t (0, 0)))) (HZ : Aside0 (Below w.heap.size w W)) : W.cell? ⟨g, 0, none⟩ = some (.string x) ∧ W.cell? ⟨g, 1, none⟩ = some (.string y) :=
  ⟨(blk_cell (blk_below BK.out HZ.out) 0).trans rfl, (blk_cell (blk_below BK.out HZ.out) 1).trans rfl⟩
/-- A new row put in. -/
theorem addI {w W : World} (HB : Below w.heap.size w W) {v v1 : Value} {us : Nat → Value} {l0 : List S63} {i : Nat} {p x : ByteArray} {A2 : Option Addr} {c2 : Nat} (hO : OWN W w.heap.size v l0 us) (h1 : Kd.R Kd.string 9 W w.heap.size (fun _ => True) v1 [x])
    (h2 : Kd.R (Kd.raw 2) 63 W w.heap.size (fun k => some k ≠ v.ownBlock) (.slice A2 1 c2) [[.string p, v1]]) (hi : i ≤ l0.length) (hl : l0.length ≤ 1000000000) :
    Calls Tryz.prog 54 #[v, .int .i64 (i : Int), .slice A2 1 c2] W fun e w' => ∃ v0 : Value, e = .returned v0 ∧ Kd.V k63 63 w' w.heap.size (fun k => w.heap.size ≤ k) v0 (addNew l0 i p x) ∧ Below w.heap.size w w' := by
  obtain ⟨hr, hq⟩ := OWN_PL hO
  have hlen : ((plO l0 us).map cellP).length = l0.length := by unfold plO; simp
  have hc := rowI.calls (fun k => some k = v.ownBlock) v ((plO l0 us).map cellP) (i : Int) A2 c2 [[.string p, v1]] _ w W HB hr (fun W_ hk => (Kd.R_reads' (Kd.R_step h2 (fun k hk1 hlt => hk.2 k hlt hk1))).2.2) (Kd.R_reads' h2).2.1 (by unfold rowI.f; rw [if_pos ⟨by rw [hlen]; exact hl, by omega, by rw [hlen]; omega, rfl⟩])
  refine hc.mono ?_
  rintro e w' ⟨v0, rfl, hR, hb, hk⟩
  refine ⟨v0, rfl, ?_, hb⟩
  have hty := Kd.R_typed hr
  have hmv : ∀ {u : Value} {xs : List ByteArray}, Kd.R Kd.string 9 W w.heap.size (fun _ => True) u xs → Kd.R Kd.string 9 w' w.heap.size (fun _ => True) u xs := fun h => Kd.R_mono (Kd.R_step (Kd.R_apart' h hty (by decide)) (fun k h1 hlt => hk.2 k hlt h1.2)) (fun _ _ => trivial)
  rw [Int.toNat_natCast] at hR
  have e1 : ((plO l0 us).take i ++ [((⟨p, [x]⟩ : S63), v1)] ++ (plO l0 us).drop i).map cellP = ((plO l0 us).map cellP).take i ++ [[.string p, v1]] ++ ((plO l0 us).map cellP).drop i := by rw [List.map_append, List.map_append, List.map_take, List.map_drop]; rfl
  have e2 : ((plO l0 us).take i ++ [((⟨p, [x]⟩ : S63), v1)] ++ (plO l0 us).drop i).map Prod.fst = addNew l0 i p x := by
    rw [List.map_append, List.map_append, List.map_take, List.map_drop, plO_fst]
    unfold addNew
    simp
  rw [← e1] at hR
  rw [← e2]
  refine addV hR fun q hq' => ?_
  rcases List.mem_append.1 hq' with hq' | hq'
  · rcases List.mem_append.1 hq' with hq' | hq'
    · exact hmv (hq q (List.mem_of_mem_take hq'))
    · rw [List.mem_singleton.1 hq']; exact hmv h1
  · exact hmv (hq q (List.mem_of_mem_drop hq'))
def tally_Add.T5 : Bool × List (List Nat × List Nat) := (true, [([], []), ([0], [0]), ([], []), ([], []), ([3], [3]), ([], []), ([5], [5]), ([6], [6]), ([4, 7], [4, 7]), ([8], [8]), ([1, 2, 9, 1], [1, 2, 9]), ([10, 10, 0, 1, 2, 3, 4, 5, 6, 7, 8, 9, 10], [10]), ([11, 0, 1, 2, 3, 4, 5, 6, 7, 8, 9, 10, 11], [])])
def tally_Add.B5 : List Nat := [0, 1, 0, 0, 8, 0, 32, 96, 248, 504, 1023, 2047, 4095]
theorem tally_Add.tab5 : rtab .any (opsOf Tryz.f30 5) = tally_Add.T5 := by kernel_rfl
theorem tally_Add.bits5 : waitsOk tally_Add.T5.2 tally_Add.B5 = true := by kernel_rfl
theorem store_stepZ {P : Program} {ops : Array Oper} {o : Oper} {a : Act} {Q : Exit → Act → World → Prop} {Kc : Act → World → Prop} {W w1 : World} (hN : o.dst = none) (hw : Region.wanted o (yielded ops a.tmps) = true) (hrun : (execOp a.eval o).run P W = .ok .skip w1) (h : Kc a w1) :
    if Region.wanted o (yielded ops a.tmps) = true then Oper.wp P o a W Kc Q else Kc (a.put none undef) W := by
  rw [if_pos hw]
  unfold Oper.wp
  rw [hrun]
  show Kc (a.put o.dst undef) w1
  rw [hN]
  exact h
theorem OWN_form {w : World} {base : Nat} {v : Value} {l : List S63} {us : Nat → Value} (h : OWN w base v l us) (hn : 0 < l.length) : ∃ g cap, v = .slice (some ⟨g, 0, none⟩) l.length cap ∧ PT w base g cap l.length (fun t => .string (rd_T63 l (t : Int)).f0) us := by
  rcases h.1 with ⟨-, rfl⟩ | h
  · exact absurd hn (by simp)
  · exact h
theorem hasR_lt {l : List S63} {p : ByteArray} (h : hasR l p = true) : bsR l p < l.length := by
  unfold hasR at h
  rw [Bool.and_eq_true, decide_eq_true_eq] at h
  exact h.1
/-- A version put into a row. -/
theorem addK {w W : World} (HB : Below w.heap.size w W) {g cap i j : Nat} {us : Nat → Value} {l0 : List S63} {x : ByteArray} {A2 : Option Addr} {c2 : Nat} (hO : OWN W w.heap.size (.slice (some ⟨g, 0, none⟩) l0.length cap) l0 us) (hi : i < l0.length)
    (h1 : Kd.R Kd.string 9 W w.heap.size (fun k => some k ≠ (us i).ownBlock) (.slice A2 1 c2) [x]) (hj : j ≤ l0[i].f1.length) (hl : l0[i].f1.length ≤ 1000000000) :
    Calls Tryz.prog 58 #[us i, .int .i64 (j : Int), .slice A2 1 c2] W fun e w' => ∃ u0 : Value, e = .returned u0 ∧ PT w' w.heap.size g cap l0.length (fun t => .string (rd_T63 l0 (t : Int)).f0) us ∧ Kd.R Kd.string 9 w' w.heap.size (fun _ => True) u0 (insV l0[i].f1 j x) ∧
      (∀ t (h : t < l0.length), t ≠ i → Kd.R Kd.string 9 w' w.heap.size (fun _ => True) (us t) l0[t].f1) ∧ Below w.heap.size w w' ∧ Kept W w' (fun k => some k = (us i).ownBlock) := by
  obtain ⟨g', cap', e, hp⟩ := OWN_form hO (by omega)
  injection e with ea _ ec
  injection ea with ea
  injection ea with ea
  subst ea; subst ec
  have hc := slices_Insert_string_string.calls (fun k => some k = (us i).ownBlock) (us i) l0[i].f1 (j : Int) A2 c2 [x] _ w W HB (Kd.R_tight rfl (hO.2.1 i hi)) (fun W_ hk => (Kd.R_reads' (Kd.R_step h1 (fun k hk1 hlt => hk.2 k hlt hk1))).2.2) (Kd.R_reads' h1).2.1 (by unfold slices_Insert_string_string.f; rw [if_pos ⟨hl, by omega, by omega, rfl⟩])
  refine hc.mono ?_
  rintro e w' ⟨u0, rfl, hR, hb, hk⟩
  rw [Int.toNat_natCast] at hR
  refine ⟨u0, rfl, PT_same hp (hk.2 g (PT_lt hp) (fun e => ?_)), Kd.R_mono hR (fun _ _ => trivial), fun t h hne => ?_, hb, hk⟩
  · obtain ⟨cells, h2⟩ := Kd.R_typed (hO.2.1 i hi) g e.symm
    obtain ⟨cur, h3, -⟩ := hp
    rw [h2] at h3
    injection h3 with h3
    injection h3 with _ h4
    exact absurd h4 (by decide)
  · refine Kd.R_mono (Kd.R_step (Kd.R_reok (ok := fun k => some k ≠ (us i).ownBlock) rfl (hO.2.1 t h) (fun k hk1 e => ?_)) (fun k h1 hlt => hk.2 k hlt h1)) (fun _ _ => trivial)
    rcases Nat.lt_or_gt_of_ne hne with hlt | hgt
    · exact hO.2.2 t i hlt hi k hk1 e.symm
    · exact hO.2.2 i t hgt h k e.symm hk1
theorem addTo_V {w : World} {base g cap i j : Nat} {us : Nat → Value} {u0 : Value} {l0 : List S63} {x : ByteArray} (hp : PT w base g cap l0.length (fun t => .string (rd_T63 l0 (t : Int)).f0) (upd us i u0)) (hi : i < l0.length) (hu : Kd.R Kd.string 9 w base (fun _ => True) u0 (insV l0[i].f1 j x))
    (hr : ∀ t (h : t < l0.length), t ≠ i → Kd.R Kd.string 9 w base (fun _ => True) (us t) l0[t].f1) : Kd.V k63 63 w base (fun k => base ≤ k) (.slice (some ⟨g, 0, none⟩) l0.length cap) (addTo l0 i j x) := by
  have hlen : (addTo l0 i j x).length = l0.length := by unfold addTo; simp
  have hget : ∀ (t : Nat) (h : t < (addTo l0 i j x).length), (addTo l0 i j x)[t].f0 = (l0[t]'(by rw [hlen] at h; exact h)).f0 ∧ (addTo l0 i j x)[t].f1 = if t = i then insV l0[i].f1 j x else (l0[t]'(by rw [hlen] at h; exact h)).f1 := by
    intro t h
    have hg : (addTo l0 i j x)[t] = if i = t then (⟨(rd_T63 l0 (i : Int)).f0, insV (rd_T63 l0 (i : Int)).f1 j x⟩ : S63) else (l0[t]'(by rw [hlen] at h; exact h)) := List.getElem_set _
    rw [hg]
    by_cases e : t = i
    · subst e
      rw [if_pos rfl, if_pos rfl, rdR63 l0 t hi]
      exact ⟨rfl, rfl⟩
    · rw [if_neg (Ne.symm e), if_neg e]
      exact ⟨rfl, rfl⟩
  have hp2 : PT w base g cap (addTo l0 i j x).length (fun t => .string (rd_T63 (addTo l0 i j x) (t : Int)).f0) (upd us i u0) := by
    rw [hlen]
    obtain ⟨cur, a1, a2, a3, a4, a5, a6⟩ := hp
    refine ⟨cur, a1, a2, a3, a4, a5, fun t ht => ?_⟩
    have h6 : cur[t * 2]? = some (.string (rd_T63 l0 (t : Int)).f0) ∧ cur[t * 2 + 1]? = some (upd us i u0 t) := a6 t ht
    show cur[t * 2]? = some (.string (rd_T63 (addTo l0 i j x) (t : Int)).f0) ∧ cur[t * 2 + 1]? = some (upd us i u0 t)
    rw [rdR63 _ t (by rw [hlen]; exact ht), (hget t (by rw [hlen]; exact ht)).1]
    rw [rdR63 l0 t ht] at h6
    exact h6
  have hR : ∀ t (h : t < (addTo l0 i j x).length), Kd.R Kd.string 9 w base (fun _ => True) (upd us i u0 t) (addTo l0 i j x)[t].f1 := by
    intro t h
    rw [(hget t h).2]
    unfold upd
    by_cases e : t = i
    · rw [if_pos e, if_pos e]; exact hu
    · rw [if_neg e, if_neg e]; exact hr t _ e
  have h := addV (plO_raw hp2 (fun t ht => (Kd.R_val (hR t ht)).2)) (fun q hq => by
    obtain ⟨t, ht, rfl⟩ := plO_mem hq
    exact hR t ht)
  rw [plO_fst, hlen] at h
  exact h
def tally_Add.T6 : Bool × List (List Nat × List Nat) := (true, [([], []), ([], []), ([0, 1], [0, 1]), ([2], [2]), ([3], [3]), ([], []), ([5], [5]), ([4, 6], [4, 6]), ([7], [7]), ([8], [8]), ([8], [8]), ([9, 7, 0, 1, 2, 3, 4, 5, 6, 7, 8, 9], [9]), ([10, 11, 0, 1, 2, 3, 4, 5, 6, 7, 8, 9, 10, 11], [10])])
def tally_Add.B6 : List Nat := [0, 0, 3, 7, 15, 0, 32, 127, 255, 511, 511, 1023, 4095]
theorem tally_Add.tab6 : rtab .any (opsOf Tryz.f30 6) = tally_Add.T6 := by kernel_rfl
theorem tally_Add.bits6 : waitsOk tally_Add.T6.2 tally_Add.B6 = true := by kernel_rfl
def tally_Add.T10 : Bool × List (List Nat × List Nat) := (true, [([], []), ([], []), ([], []), ([], []), ([2, 3], [2, 3]), ([4], [4]), ([5], [5]), ([], []), ([], []), ([8], [8]), ([9], [9]), ([6, 7, 10], [6, 7, 10]), ([0, 1, 0, 1, 2, 3, 4, 5, 6, 7, 8, 9, 10, 11], [0, 1]), ([12, 0, 1, 2, 3, 4, 5, 6, 7, 8, 9, 10, 11], [12]), ([13, 11, 11, 0, 1, 2, 3, 4, 5, 6, 7, 8, 9, 10, 11], [11, 13])])
def tally_Add.B10 : List Nat := [0, 0, 0, 0, 12, 28, 60, 0, 0, 256, 768, 2044, 4095, 8191, 16383]
theorem tally_Add.tab10 : rtab .any (opsOf Tryz.f30 10) = tally_Add.T10 := by kernel_rfl
theorem tally_Add.bits10 : waitsOk tally_Add.T10.2 tally_Add.B10 = true := by kernel_rfl
set_option maxRecDepth 100000 in
set_option maxHeartbeats 8000000 in
theorem tally_Add.calls (k : Nat) (P0_ : Nat → Prop) (A0 : Option Addr) (c0 : Nat) (l0 : List (S63)) (a1_0 a1_1 : ByteArray) (r1 : List (S63)) (r2 : Int) (w : World) (hs0 : Kd.V k63 63 w w.heap.size (fun k_ => P0_ k_) (.slice A0 l0.length c0) l0) (h : tally_Add.f k l0 a1_0 a1_1 = some (r1, r2)) :
    Calls Tryz.prog 30 #[.slice A0 l0.length c0, .agg #[.string a1_0, .string a1_1]] w fun e w' => ∃ v0_ : Value, e = .returned (.tuple #[v0_, .int .i64 r2]) ∧ Kd.V k63 63 w' w.heap.size (fun k_ => (P0_ k_ ∨ w.heap.size ≤ k_)) v0_ r1 ∧ Below w.heap.size w w' := by
  unfold tally_Add.f at h
  replace h := ifN h
  obtain ⟨hok, h⟩ := h
  obtain ⟨e, he, h⟩ := bnd h
  have HOK := am hok
  have HE := he
  have HS0 := am hs0
  have HR0 := am (Kd.F_now (Kd.V_F hs0))
  have HC0 := am (show l0.length ≤ c0 by obtain ⟨A, c, hv, hl, -⟩ := hs0; injection hv with _ _ hc; rw [hc]; exact hl)
  have HB := am (Below.refl w.heap.size w)
  have huN := Tryz.underlying55
  have huR := Tryz.underlying63
  clear hs0 hok he
  go_enter Tryz.func30, Tryz.ntmps30
  by_cases h0 : e = 0
  case neg =>
    rw [if_neg h0] at h
    obtain ⟨rfl, rfl⟩ := prB h
    have d0 : (e != 0) = true := bne_iff_ne.mpr h0
    clear h0 h
    go_wp2_with (first
      | ((with_reducible refine gtD 3 ?_); refine xBx 3 55 #[.string a1_0, .string a1_1] ?_; intro gn hg w1 hbox hb; have GE := am (gTx hg HB.out); have BK := am hbox; replace HB := am (below_step HB.out hb); clear hb hbox hg; obtain ⟨b0, b1, b2, b3⟩ := bxB BK)
      | (go_at_call 51; refine (tally_Check.calls k _ _ l0 e _ (Kd.C_below HR0.out HB.out) HC0.out HE.out).mono ?_; rintro _ w2 ⟨rfl, hb⟩; replace BK := am (blk_below BK.out hb); replace HB := am (below_step HB.out hb); clear hb b0 b1 b2 b3; obtain ⟨b0, b1, b2, b3⟩ := bxB BK))
    go_ret2
    exact ⟨_, rfl, Kd.V_mono (Kd.V_below HS0.out HB.out) (fun _ hk => .inl hk), HB.out⟩
  subst h0
  rw [if_pos rfl] at h
  obtain ⟨m, hm, h⟩ := bnd h
  have HM := hm
  have d0 : ((0 : Int) != 0) = false := rfl
  clear hm
  cases m with
  | false =>
    rw [if_neg Bool.false_ne_true] at h
    obtain ⟨rfl, rfl⟩ := prB h
    clear h
    go_wp2_with (first
      | ((with_reducible refine gtD 3 ?_); refine xBx 3 55 #[.string a1_0, .string a1_1] ?_; intro gn hg w1 hbox hb; have GE := am (gTx hg HB.out); have BK := am hbox; replace HB := am (below_step HB.out hb); clear hb hbox hg; obtain ⟨b0, b1, b2, b3⟩ := bxB BK)
      | (go_at_call 51; refine (tally_Check.calls k _ _ l0 0 _ (Kd.C_below HR0.out HB.out) HC0.out HE.out).mono ?_; rintro _ w2 ⟨rfl, hb⟩; replace BK := am (blk_below BK.out hb); replace HB := am (below_step HB.out hb); clear hb b0 b1 b2 b3; obtain ⟨b0, b1, b2, b3⟩ := bxB BK)
      | (go_at_call 52; refine (node_May.calls k a1_0 a1_1 _ _ HM.out).mono ?_; rintro _ w3 ⟨rfl, hb⟩; replace BK := am (blk_below BK.out hb); replace HB := am (below_step HB.out hb); clear hb b0 b1 b2 b3; obtain ⟨b0, b1, b2, b3⟩ := bxB BK))
    go_ret2
    exact ⟨_, rfl, Kd.V_mono (Kd.V_below HS0.out HB.out) (fun _ hk => .inl hk), HB.out⟩
  | true =>
    rw [if_pos rfl] at h
    cases hh : hasR l0 a1_0 with
    | false =>
      rw [hh, if_neg Bool.false_ne_true] at h
      obtain ⟨rfl, rfl⟩ := prB h
      clear h
      go_wp2_with (first
        | ((with_reducible refine gtD 3 ?_); refine xBx 3 55 #[.string a1_0, .string a1_1] ?_; intro gn hg w1 hbox hb; have GE := am (gTx hg HB.out); have BK := am hbox; replace HB := am (below_step HB.out hb); clear hb hbox hg; obtain ⟨b0, b1, b2, b3⟩ := bxB BK)
        | (go_at_call 51; refine (tally_Check.calls k _ _ l0 0 _ (Kd.C_below HR0.out HB.out) HC0.out HE.out).mono ?_; rintro _ w2 ⟨rfl, hb⟩; replace BK := am (blk_below BK.out hb); replace HB := am (below_step HB.out hb); clear hb b0 b1 b2 b3; obtain ⟨b0, b1, b2, b3⟩ := bxB BK)
        | (go_at_call 52; refine (node_May.calls k a1_0 a1_1 _ _ HM.out).mono ?_; rintro _ w3 ⟨rfl, hb⟩; replace BK := am (blk_below BK.out hb); replace HB := am (below_step HB.out hb); clear hb b0 b1 b2 b3; obtain ⟨b0, b1, b2, b3⟩ := bxB BK)
        | (go_at_call 53; refine (tally_find.calls _ _ l0 a1_0 _ _ _ (Kd.C_below HR0.out HB.out) HC0.out (by unfold tally_find.f; rw [if_pos (okA_len HOK.out)])).mono ?_; rintro _ w4 ⟨rfl, hb⟩; replace BK := am (blk_below BK.out hb); replace HB := am (below_step HB.out hb); clear hb b0 b1 b2 b3; obtain ⟨b0, b1, b2, b3⟩ := bxB BK))
      have hS := fun (W : World) (HZ : Aside0 (Below w4.heap.size w4 W)) => s2K BK HZ
      have HBw := HB
      refine zS 13 hS ⟨Below.refl _ _⟩ tally_Add.tab5 tally_Add.bits5 fun w5 HZ hHeld HT_ HW_ => ?_
      clear b0 b1 b2 b3
      refine pT 0 29 (bA 13 1) HT_.out ?_
      refine pT 2 31 (bA 13 5) HT_.out ?_
      refine pT 3 32 (bA 13 13) HT_.out ?_
      refine tT 4 33 (bA 13 29) HT_.out HW_.out hHeld ?_ (hy := by rintro w' ⟨s0, s1⟩; go_simp; with_reducible rfl)
      refine pT 5 34 (bA 13 61) HT_.out ?_
      refine tT 6 35 (bA 13 125) HT_.out HW_.out hHeld ?_ (hy := by rintro w' ⟨s0, s1⟩; go_simp; with_reducible rfl)
      refine two_ (i := 1) (j := 7) (bA 13 127) (bA 13 253) rfl rfl rfl rfl (two_of HT_.out rfK) (by decide) (by decide) (fun K hK => ?_) (fun K hK => ?_)
      ·refine gS Tryz.func55 #[.slice A0 l0.length c0] ?_
       refine (own_calls A0 c0 l0 _ (Kd.C_below HR0.out (below_step HB.out HZ.out)) HC0.out (okA_len HOK.out) (okA_row HOK.out)).mono ?_
       rintro _ wo ⟨v, rfl, ⟨us, hO⟩, hb⟩
       refine ⟨_, rfl, ?_⟩
       have HOW := am (OWN_lower hO (below_size HZ.out))
       have HVB := am (Kd.R_base (OWN_PL hO).1)
       clear hO
       replace HZ := am (below_step HZ.out hb)
       clear hb
       refine hK.out _ _ (s2K BK HZ) (fun hHeld => ?_)
       clear hK K
       refine mN 30 ?_
       refine oT 7 (bA 13 255) HT_.out fun K hK => ?_
       refine Kd.R_lit_step Kd.string _ 9 ?hg (N := 36) ?hd (xs := [a1_1]) (inner := [.string a1_1]) (ok := fun _ => True) (okp := fun _ => True) ?hr ?hp (fun _ hk => hk) trivial (Below.refl _ _) (Nat.le_refl _) (by simp) ?_; (case hd => rfl); (case hg => rfl); (case hr => first | (go_simp; done) | (go_simp; rfl)); (case hp => exact Reps.one (show Kd.M Kd.string _ _ _ a1_1 [.string a1_1] from rfl) (Reps.none _ _))
       intro v1 ws ho hb hg_ hnew_
       clear hg_ hnew_
       obtain ⟨As, cs_, rfl⟩ := Kd.R_slice ho
       have HS1 := am (Kd.R_lower ho (below_size HZ.out))
       replace HOW := am (OWN_below HOW.out hb)
       replace HZ := am (below_step HZ.out hb)
       clear hb ho
       refine hK.out _ _ (s2K BK HZ) (fun hHeld => ?_)
       clear hK K
       refine mN 36 ?_
       refine pT 8 37 (bA 13 511) HT_.out ?_
       refine oT 9 (bA 13 1023) HT_.out fun K hK => ?_
       refine Kd.R_lit_step (Kd.raw 2) _ 63 ?hg (N := 38) ?hd (xs := [[.string a1_0, .slice As 1 cs_]]) (inner := [.string a1_0, .slice As 1 cs_]) (ok := fun _ => True) (okp := fun _ => True) ?hr ?hp (fun _ hk => hk) trivial (Below.refl _ _) (Nat.le_refl _) (by simp) ?_; (case hd => rfl); (case hg => rfl); (case hr => first | (go_simp; done) | (go_simp; rfl)); (case hp => exact Reps.c2 (show Kd.M (Kd.raw 2) _ _ _ [.string a1_0, .slice As 1 cs_] [.string a1_0, .slice As 1 cs_] from ⟨rfl, rfl, fun u hu => by rcases List.mem_cons.1 hu with rfl | hu; rfl; rw [List.mem_singleton.1 hu]; rfl⟩) (Reps.none _ _))
       intro v2 wr ho hb hg_ hnew_
       clear hg_ hnew_
       obtain ⟨Ar, cr_, rfl⟩ := Kd.R_slice ho
       have HS2 := am (Kd.R_mono (Kd.R_lower (Kd.R_new' ho (Kd.R_lt (OWN_PL HOW.out).1)) (below_size HZ.out)) (fun _ h => h.2))
       replace HS1 := am (Kd.R_below HS1.out hb)
       replace HOW := am (OWN_below HOW.out hb)
       replace HZ := am (below_step HZ.out hb)
       clear hb ho
       refine hK.out _ _ (s2K BK HZ) (fun hHeld => ?_)
       clear hK K
       refine mN 38 ?_
       refine oT 10 (bA 13 2047) HT_.out fun K hK => ?_
       refine gS Tryz.func54 #[v, .int .i64 (bsR l0 a1_0 : Int), .slice Ar 1 cr_] ?_
       refine (addI HZ.out HOW.out HS1.out HS2.out (bsR_le _ _) (okA_len HOK.out)).mono ?_
       rintro _ wf ⟨v0, rfl, hV, hb⟩
       refine ⟨_, rfl, ?_⟩
       replace HZ := am hb
       have HVF := am hV
       clear hV hb
       refine hK.out _ _ (s2K BK HZ) (fun hHeld => ?_)
       clear hK K
       refine mN 39 ?_
       refine pT 11 4 (bA 13 4095) HT_.out ?_
       refine pT 12 5 (bA 13 8191) HT_.out ?_
       refine zD HT_ ?_
       replace HB := am (below_step HB.out HZ.out)
       have HSZ := am (below_size HBw.out)
       go_wp2
       go_ret2
       exact ⟨_, rfl, Kd.V_mono HVF.out (fun _ hk => .inr (Nat.le_trans HSZ.out hk)), HB.out⟩
      ·refine Kd.R_lit_step Kd.string _ 9 ?hg (N := 36) ?hd (xs := [a1_1]) (inner := [.string a1_1]) (ok := fun _ => True) (okp := fun _ => True) ?hr ?hp (fun _ hk => hk) trivial (Below.refl _ _) (Nat.le_refl _) (by simp) ?_; (case hd => rfl); (case hg => rfl); (case hr => first | (go_simp; done) | (go_simp; rfl)); (case hp => exact Reps.one (show Kd.M Kd.string _ _ _ a1_1 [.string a1_1] from rfl) (Reps.none _ _))
       intro v1 ws ho hb hg_ hnew_
       clear hg_ hnew_
       obtain ⟨As, cs_, rfl⟩ := Kd.R_slice ho
       have HS1 := am (Kd.R_lower ho (below_size HZ.out))
       replace HZ := am (below_step HZ.out hb)
       clear hb ho
       refine hK.out _ _ (s2K BK HZ) (fun hHeld => ?_)
       clear hK K
       refine mN 36 ?_
       refine pT 8 37 (bA 13 509) HT_.out ?_
       refine two_ (i := 1) (j := 9) (bA 13 511) (bA 13 1021) rfl rfl rfl rfl (two_of HT_.out rfK) (by decide) (by decide) (fun K hK => ?_) (fun K hK => ?_)
       ·refine gS Tryz.func55 #[.slice A0 l0.length c0] ?_
        refine (own_calls A0 c0 l0 _ (Kd.C_below HR0.out (below_step HB.out HZ.out)) HC0.out (okA_len HOK.out) (okA_row HOK.out)).mono ?_
        rintro _ wo ⟨v, rfl, ⟨us, hO⟩, hb⟩
        refine ⟨_, rfl, ?_⟩
        have HOW := am (OWN_lower hO (below_size HZ.out))
        have HVB := am (Kd.R_base (OWN_PL hO).1)
        clear hO
        replace HS1 := am (Kd.R_below HS1.out hb)
        replace HZ := am (below_step HZ.out hb)
        clear hb
        refine hK.out _ _ (s2K BK HZ) (fun hHeld => ?_)
        clear hK K
        refine mN 30 ?_
        refine oT 9 (bA 13 1023) HT_.out fun K hK => ?_
        refine Kd.R_lit_step (Kd.raw 2) _ 63 ?hg (N := 38) ?hd (xs := [[.string a1_0, .slice As 1 cs_]]) (inner := [.string a1_0, .slice As 1 cs_]) (ok := fun _ => True) (okp := fun _ => True) ?hr ?hp (fun _ hk => hk) trivial (Below.refl _ _) (Nat.le_refl _) (by simp) ?_; (case hd => rfl); (case hg => rfl); (case hr => first | (go_simp; done) | (go_simp; rfl)); (case hp => exact Reps.c2 (show Kd.M (Kd.raw 2) _ _ _ [.string a1_0, .slice As 1 cs_] [.string a1_0, .slice As 1 cs_] from ⟨rfl, rfl, fun u hu => by rcases List.mem_cons.1 hu with rfl | hu; rfl; rw [List.mem_singleton.1 hu]; rfl⟩) (Reps.none _ _))
        intro v2 wr ho hb hg_ hnew_
        clear hg_ hnew_
        obtain ⟨Ar, cr_, rfl⟩ := Kd.R_slice ho
        have HS2 := am (Kd.R_mono (Kd.R_lower (Kd.R_new' ho (Kd.R_lt (OWN_PL HOW.out).1)) (below_size HZ.out)) (fun _ h => h.2))
        replace HS1 := am (Kd.R_below HS1.out hb)
        replace HOW := am (OWN_below HOW.out hb)
        replace HZ := am (below_step HZ.out hb)
        clear hb ho
        refine hK.out _ _ (s2K BK HZ) (fun hHeld => ?_)
        clear hK K
        refine mN 38 ?_
        refine oT 10 (bA 13 2047) HT_.out fun K hK => ?_
        refine gS Tryz.func54 #[v, .int .i64 (bsR l0 a1_0 : Int), .slice Ar 1 cr_] ?_
        refine (addI HZ.out HOW.out HS1.out HS2.out (bsR_le _ _) (okA_len HOK.out)).mono ?_
        rintro _ wf ⟨v0, rfl, hV, hb⟩
        refine ⟨_, rfl, ?_⟩
        replace HZ := am hb
        have HVF := am hV
        clear hV hb
        refine hK.out _ _ (s2K BK HZ) (fun hHeld => ?_)
        clear hK K
        refine mN 39 ?_
        refine pT 11 4 (bA 13 4095) HT_.out ?_
        refine pT 12 5 (bA 13 8191) HT_.out ?_
        refine zD HT_ ?_
        replace HB := am (below_step HB.out HZ.out)
        have HSZ := am (below_size HBw.out)
        go_wp2
        go_ret2
        exact ⟨_, rfl, Kd.V_mono HVF.out (fun _ hk => .inr (Nat.le_trans HSZ.out hk)), HB.out⟩
       ·refine Kd.R_lit_step (Kd.raw 2) _ 63 ?hg (N := 38) ?hd (xs := [[.string a1_0, .slice As 1 cs_]]) (inner := [.string a1_0, .slice As 1 cs_]) (ok := fun _ => True) (okp := fun _ => True) ?hr ?hp (fun _ hk => hk) trivial (Below.refl _ _) (Nat.le_refl _) (by simp) ?_; (case hd => rfl); (case hg => rfl); (case hr => first | (go_simp; done) | (go_simp; rfl)); (case hp => exact Reps.c2 (show Kd.M (Kd.raw 2) _ _ _ [.string a1_0, .slice As 1 cs_] [.string a1_0, .slice As 1 cs_] from ⟨rfl, rfl, fun u hu => by rcases List.mem_cons.1 hu with rfl | hu; rfl; rw [List.mem_singleton.1 hu]; rfl⟩) (Reps.none _ _))
        intro v2 wr ho hb hg_ hnew_
        clear hg_ hnew_
        obtain ⟨Ar, cr_, rfl⟩ := Kd.R_slice ho
        have HS2 := am (Kd.R_lower ho (below_size HZ.out))
        replace HS1 := am (Kd.R_below HS1.out hb)
        replace HZ := am (below_step HZ.out hb)
        clear hb ho
        refine hK.out _ _ (s2K BK HZ) (fun hHeld => ?_)
        clear hK K
        refine mN 38 ?_
        refine oT 1 (bA 13 1023) HT_.out fun K hK => ?_
        refine gS Tryz.func55 #[.slice A0 l0.length c0] ?_
        refine (own_calls A0 c0 l0 _ (Kd.C_below HR0.out (below_step HB.out HZ.out)) HC0.out (okA_len HOK.out) (okA_row HOK.out)).mono ?_
        rintro _ wo ⟨v, rfl, ⟨us, hO⟩, hb⟩
        refine ⟨_, rfl, ?_⟩
        have HOW := am (OWN_lower hO (below_size HZ.out))
        have HVB := am (Kd.R_base (OWN_PL hO).1)
        replace HS2 := am (Kd.R_mono (Kd.R_elder' HS2.out (Kd.R_base (OWN_PL hO).1) hb) (fun _ h => h.2))
        replace HS1 := am (Kd.R_below HS1.out hb)
        clear hO
        replace HZ := am (below_step HZ.out hb)
        clear hb
        refine hK.out _ _ (s2K BK HZ) (fun hHeld => ?_)
        clear hK K
        refine mN 30 ?_
        refine oT 10 (bA 13 2047) HT_.out fun K hK => ?_
        refine gS Tryz.func54 #[v, .int .i64 (bsR l0 a1_0 : Int), .slice Ar 1 cr_] ?_
        refine (addI HZ.out HOW.out HS1.out HS2.out (bsR_le _ _) (okA_len HOK.out)).mono ?_
        rintro _ wf ⟨v0, rfl, hV, hb⟩
        refine ⟨_, rfl, ?_⟩
        replace HZ := am hb
        have HVF := am hV
        clear hV hb
        refine hK.out _ _ (s2K BK HZ) (fun hHeld => ?_)
        clear hK K
        refine mN 39 ?_
        refine pT 11 4 (bA 13 4095) HT_.out ?_
        refine pT 12 5 (bA 13 8191) HT_.out ?_
        refine zD HT_ ?_
        replace HB := am (below_step HB.out HZ.out)
        have HSZ := am (below_size HBw.out)
        go_wp2
        go_ret2
        exact ⟨_, rfl, Kd.V_mono HVF.out (fun _ hk => .inr (Nat.le_trans HSZ.out hk)), HB.out⟩

    | true =>
      rw [hh, if_pos rfl] at h
      obtain ⟨cs, hcs, h⟩ := bnd h
      have HCS := hcs
      have HHR := am (hasR_lt hh)
      clear hcs
      rename_i hx1_ hx2_
      clear hx1_ hx2_
      go_wp2_with (first
        | ((with_reducible refine gtD 3 ?_); refine xBx 3 55 #[.string a1_0, .string a1_1] ?_; intro gn hg w1 hbox hb; have GE := am (gTx hg HB.out); have BK := am hbox; replace HB := am (below_step HB.out hb); clear hb hbox hg; obtain ⟨b0, b1, b2, b3⟩ := bxB BK)
        | (go_at_call 51; refine (tally_Check.calls k _ _ l0 0 _ (Kd.C_below HR0.out HB.out) HC0.out HE.out).mono ?_; rintro _ w2 ⟨rfl, hb⟩; replace BK := am (blk_below BK.out hb); replace HB := am (below_step HB.out hb); clear hb b0 b1 b2 b3; obtain ⟨b0, b1, b2, b3⟩ := bxB BK)
        | (go_at_call 52; refine (node_May.calls k a1_0 a1_1 _ _ HM.out).mono ?_; rintro _ w3 ⟨rfl, hb⟩; replace BK := am (blk_below BK.out hb); replace HB := am (below_step HB.out hb); clear hb b0 b1 b2 b3; obtain ⟨b0, b1, b2, b3⟩ := bxB BK)
        | (go_at_call 53; refine (tally_find.calls _ _ l0 a1_0 _ _ _ (Kd.C_below HR0.out HB.out) HC0.out (by unfold tally_find.f; rw [if_pos (okA_len HOK.out)])).mono ?_; rintro _ w4 ⟨rfl, hb⟩; replace BK := am (blk_below BK.out hb); replace HB := am (below_step HB.out hb); clear hb b0 b1 b2 b3; obtain ⟨b0, b1, b2, b3⟩ := bxB BK))
      obtain ⟨i, hi⟩ : ∃ i, i = bsR l0 a1_0 := ⟨_, rfl⟩
      rw [← hi] at h HCS HHR ⊢
      have hil := HHR.out
      have p0 := eq_true (show (0 : Int) ≤ (i : Int) by omega)
      have q0 := eq_true (show (i : Int) < (l0.length : Int) by omega)
      have qN := eq_true hil
      obtain ⟨ad, A1, c1, ead, -, hx1, hl1, hC1⟩ := at_T63 HR0.out (i : Int) (by omega) (by omega)
      cases ead
      rw [rdR63 l0 i hil] at hx1 hl1 hC1 HCS
      rw [Int.toNat_natCast] at hx1
      obtain ⟨x, hx⟩ : ∃ x, x = l0[i] := ⟨_, rfl⟩
      rw [← hx] at hx1 hl1 hC1 HCS
      have HX := am (show ∀ h : i < l0.length, x = l0[i] from fun _ => hx)
      have HXL := am (okA_row HOK.out x (by rw [hx]; exact List.getElem_mem hil))
      have HC1 := am hC1
      have HX1 := am hx1
      have hS := fun (W : World) (HZ : Aside0 (Below w4.heap.size w4 W)) => And.intro (s2K BK HZ) (((below_step HB.out HZ.out).cell (World.block_lt_of_cell? w _ hx1)).trans hx1)
      have HH := am h
      clear hil hl1 hC1 hx hi hh h hx1
      refine zS 13 hS ⟨Below.refl _ _⟩ tally_Add.tab6 tally_Add.bits6 fun w5 HZ hHeld HT_ HW_ => ?_
      clear b0 b1 b2 b3
      iterate 4 refine zT HT_ ?_
      refine zL HT_ HW_ hHeld ?_ (hy := by rintro w' ⟨⟨s0, s1⟩, s2⟩; go_simp; with_reducible rfl)
      refine zT HT_ ?_
      refine zL HT_ HW_ hHeld ?_ (hy := by rintro w' ⟨⟨s0, s1⟩, s2⟩; go_simp; with_reducible rfl)
      refine zC hS HT_ HZ Tryz.func56 (bsV_calls k _ _ x.f1 cs a1_1 _ (Kd.C_below HC1.out (below_step HB.out HZ.out)) HXL.out HCS.out) fun w6 HZ hHeld => ?_
      refine mN _ ?_
      iterate 5 refine zT HT_ ?_
      refine zD HT_ ?_
      replace HB := am (below_step HB.out HZ.out)
      replace BK := am (blk_below BK.out HZ.out)
      have h := HH.out
      clear HH hHeld HT_ HW_ hS HZ
      cases hI : hasI cs with
      | true =>
        rw [hI, if_pos rfl] at h
        obtain ⟨rfl, rfl⟩ := prB h
        clear h
        go_wp2
        go_ret2
        exact ⟨_, rfl, Kd.V_mono (Kd.V_below HS0.out HB.out) (fun _ hk => .inl hk), HB.out⟩
      | false =>
        rw [hI, if_neg Bool.false_ne_true] at h
        obtain ⟨rfl, rfl⟩ := prB h
        clear h
        have HSZ := am (below_size HB.out)
        go_wp2_with (first | (go_at_call 55; refine (own_calls (some ad) c0 l0 _ (Kd.C_below HR0.out HB.out) HC0.out (okA_len HOK.out) (okA_row HOK.out)).mono ?_; rintro _ w7 ⟨v, rfl, ⟨us, hO⟩, hb⟩; have HVB := am (Kd.R_base (OWN_PL hO).1); obtain ⟨g, cap, rfl, -⟩ := OWN_form hO (Nat.lt_of_le_of_lt (Nat.zero_le _) HHR.out); have HOW := am (OWN_lower hO (below_size HB.out)); replace BK := am (blk_below BK.out hb); replace HB := am (below_step HB.out hb); clear hb hO))
        obtain ⟨Au, cu, hui⟩ := Kd.R_slice (HOW.out.2.1 i HHR.out)
        rw [← HX.out HHR.out] at hui
        have HPT := am (show PT w7 w.heap.size g cap l0.length (fun t => .string (rd_T63 l0 (t : Int)).f0) us by
          obtain ⟨g', cap', e, hp⟩ := OWN_form HOW.out (Nat.lt_of_le_of_lt (Nat.zero_le _) HHR.out)
          injection e with ea _ ec
          injection ea with ea
          injection ea with ea
          rw [ea, ec]; exact hp)
        have hS := fun (W : World) (HZ : Aside0 (Below w7.heap.size w7 W)) => s2K BK HZ
        have HCG := am (fun (W : World) (HZ : Below w7.heap.size w7 W) => show W.cell? ⟨g, i * 2 + 1, none⟩ = some (.slice Au x.f1.length cu) by rw [← hui]; exact (PT_cells (PT_below HPT.out HZ) HHR.out).2.1)
        have HUI := am hui
        have HJ := am (show bsI cs ≤ x.f1.length by have := bsI_le cs; have := (ordsF_at HCS.out).1; omega)
        clear hui
        refine zS 15 hS ⟨Below.refl _ _⟩ tally_Add.tab10 tally_Add.bits10 fun w8 HZ hHeld HT_ HW_ => ?_
        iterate 6 refine zT HT_ ?_
        refine pT 7 62 (bA 15 191) HT_.out ?_
        refine pT 8 63 (bA 15 447) HT_.out ?_
        refine tT 9 64 (bA 15 959) HT_.out HW_.out hHeld ?_ (hy := by rintro w' ⟨s0, s1⟩; go_simp; with_reducible rfl)
        refine two_ (i := 6) (j := 10) (bA 15 1023) (bA 15 1983) rfl rfl rfl rfl (two_of HT_.out rfK) (by decide) (by decide) (fun K hK => ?_) (fun K hK => ?_)
        ·have hcg_ := HCG.out _ HZ.out
         refine event_step (v := .slice Au x.f1.length cu) rfl (by first | (go_simp; done) | (go_simp; rfl)) ?_
         clear hcg_
         refine hK.out _ _ (s2K BK HZ) (fun hHeld => ?_)
         clear hK K
         refine mN 61 ?_
         refine oT 10 (bA 15 2047) HT_.out fun K hK => ?_
         refine Kd.R_lit_step Kd.string _ 9 ?hg (N := 65) ?hd (xs := [a1_1]) (inner := [.string a1_1]) (ok := fun _ => True) (okp := fun _ => True) ?hr ?hp (fun _ hk => hk) trivial (Below.refl _ _) (Nat.le_refl _) (by simp) ?_; (case hd => rfl); (case hg => rfl); (case hr => first | (go_simp; done) | (go_simp; rfl)); (case hp => exact Reps.one (show Kd.M Kd.string _ _ _ a1_1 [.string a1_1] from rfl) (Reps.none _ _))
         intro v1 ws ho hb hg_ hnew_
         clear hg_ hnew_
         obtain ⟨As, cs_, rfl⟩ := Kd.R_slice ho
         have HS1 := am (Kd.R_mono (Kd.R_lower (Kd.R_new' ho (Kd.R_lt ((OWN_below HOW.out HZ.out).2.1 i HHR.out))) (below_size (below_step HB.out HZ.out))) (fun _ h => h.2))
         replace HZ := am (below_step HZ.out hb)
         clear hb ho
         refine hK.out _ _ (s2K BK HZ) (fun hHeld => ?_)
         clear hK K
         refine mN 65 ?_
         refine oT 11 (bA 15 4095) HT_.out fun K hK => ?_
         refine gS Tryz.func58 #[.slice Au x.f1.length cu, .int .i64 (bsI cs : Int), .slice As 1 cs_] ?_
         have hc_ := addK (below_step HB.out HZ.out) (OWN_below HOW.out HZ.out) HHR.out HS1.out (by rw [← HX.out HHR.out]; exact HJ.out) (by rw [← HX.out HHR.out]; exact HXL.out)
         have hty_ := Kd.R_typed ((OWN_below HOW.out HZ.out).2.1 i HHR.out)
         rw [HUI.out] at hty_
         rw [HUI.out, ← HX.out HHR.out] at hc_
         refine hc_.mono ?_
         rintro _ wf ⟨u0, rfl, hp, hu, hr, hb, hk⟩
         obtain ⟨Af, cf, rfl⟩ := Kd.R_slice hu
         refine ⟨_, rfl, ?_⟩
         have BKf := am (show wf.heap[gn]? = some (.cells #[.string a1_0, .string a1_1] 55 (0, 0)) from (hk.2 gn (blk_lt (blk_below BK.out HZ.out)) (fun e => by
           obtain ⟨cells, h2⟩ := hty_ gn e.symm
           rw [blk_below BK.out HZ.out] at h2
           injection h2 with h2
           injection h2 with _ h4
           exact absurd h4 (by decide))).trans (blk_below BK.out HZ.out))
         have HPF := am hp
         have HUF := am hu
         have HRF := am hr
         have HBF := am hb
         clear hp hu hr hb hk hc_ hty_
         refine hK.out _ _ (s2K BKf ⟨Below.refl _ _⟩) (fun hHeld => ?_)
         clear hK K
         refine mN 66 ?_
         refine pT 12 67 (bA 15 8191) HT_.out ?_
         refine pT 13 68 (bA 15 16383) HT_.out ?_
         refine oT 14 (bA 15 32767) HT_.out fun K hK => ?_
         obtain ⟨-, hx_, hf_⟩ := PT_cells HPF.out HHR.out
         have hf2_ := hf_ (i * 2 + 1)
         rw [HUI.out] at hx_
         refine store_stepZ rfl rfl (w1 := wf.setCell ⟨g, i * 2 + 1, none⟩ (.slice Af (insV x.f1 (bsI cs) a1_1).length cf)) (by first | (go_simp; done) | (go_simp; rfl)) ?_
         clear hx_ hf_ hf2_
         refine hK.out _ _ (s2K (w := wf.setCell ⟨g, i * 2 + 1, none⟩ (.slice Af (insV x.f1 (bsI cs) a1_1).length cf)) ⟨blk_far (p := ⟨g, i * 2 + 1, none⟩) BKf.out (fun e => by
           obtain ⟨cur, h3, -⟩ := HPF.out
           have h4 := BKf.out
           rw [e, h3] at h4
           injection h4 with h4
           injection h4 with _ h5
           exact absurd h5 (by decide)) _⟩ ⟨Below.refl _ _⟩) (fun hHeld => ?_)
         clear hK K
         refine zD HT_ ?_
         have HVF := am (addTo_V (PT_put HPF.out HHR.out _) HHR.out (by rw [← HX.out HHR.out]; exact R_PT HUF.out HPF.out _ _) (fun t h hne => R_PT (HRF.out t h hne) HPF.out _ _))
         have HBG := am (below_set (g := g) (j := i * 2 + 1) (v := .slice Af (insV x.f1 (bsI cs) a1_1).length cf) HBF.out (PT_base HPF.out))
         go_wp2
         go_ret2
         exact ⟨_, rfl, Kd.V_mono HVF.out (fun _ hk => .inr hk), HBG.out⟩
        ·refine Kd.R_lit_step Kd.string _ 9 ?hg (N := 65) ?hd (xs := [a1_1]) (inner := [.string a1_1]) (ok := fun _ => True) (okp := fun _ => True) ?hr ?hp (fun _ hk => hk) trivial (Below.refl _ _) (Nat.le_refl _) (by simp) ?_; (case hd => rfl); (case hg => rfl); (case hr => first | (go_simp; done) | (go_simp; rfl)); (case hp => exact Reps.one (show Kd.M Kd.string _ _ _ a1_1 [.string a1_1] from rfl) (Reps.none _ _))
         intro v1 ws ho hb hg_ hnew_
         clear hg_ hnew_
         obtain ⟨As, cs_, rfl⟩ := Kd.R_slice ho
         have HS1 := am (Kd.R_mono (Kd.R_lower (Kd.R_new' ho (Kd.R_lt ((OWN_below HOW.out HZ.out).2.1 i HHR.out))) (below_size (below_step HB.out HZ.out))) (fun _ h => h.2))
         replace HZ := am (below_step HZ.out hb)
         clear hb ho
         refine hK.out _ _ (s2K BK HZ) (fun hHeld => ?_)
         clear hK K
         refine mN 65 ?_
         refine oT 6 (bA 15 2047) HT_.out fun K hK => ?_
         have hcg_ := HCG.out _ HZ.out
         refine event_step (v := .slice Au x.f1.length cu) rfl (by first | (go_simp; done) | (go_simp; rfl)) ?_
         clear hcg_
         refine hK.out _ _ (s2K BK HZ) (fun hHeld => ?_)
         clear hK K
         refine mN 61 ?_
         refine oT 11 (bA 15 4095) HT_.out fun K hK => ?_
         refine gS Tryz.func58 #[.slice Au x.f1.length cu, .int .i64 (bsI cs : Int), .slice As 1 cs_] ?_
         have hc_ := addK (below_step HB.out HZ.out) (OWN_below HOW.out HZ.out) HHR.out HS1.out (by rw [← HX.out HHR.out]; exact HJ.out) (by rw [← HX.out HHR.out]; exact HXL.out)
         have hty_ := Kd.R_typed ((OWN_below HOW.out HZ.out).2.1 i HHR.out)
         rw [HUI.out] at hty_
         rw [HUI.out, ← HX.out HHR.out] at hc_
         refine hc_.mono ?_
         rintro _ wf ⟨u0, rfl, hp, hu, hr, hb, hk⟩
         obtain ⟨Af, cf, rfl⟩ := Kd.R_slice hu
         refine ⟨_, rfl, ?_⟩
         have BKf := am (show wf.heap[gn]? = some (.cells #[.string a1_0, .string a1_1] 55 (0, 0)) from (hk.2 gn (blk_lt (blk_below BK.out HZ.out)) (fun e => by
           obtain ⟨cells, h2⟩ := hty_ gn e.symm
           rw [blk_below BK.out HZ.out] at h2
           injection h2 with h2
           injection h2 with _ h4
           exact absurd h4 (by decide))).trans (blk_below BK.out HZ.out))
         have HPF := am hp
         have HUF := am hu
         have HRF := am hr
         have HBF := am hb
         clear hp hu hr hb hk hc_ hty_
         refine hK.out _ _ (s2K BKf ⟨Below.refl _ _⟩) (fun hHeld => ?_)
         clear hK K
         refine mN 66 ?_
         refine pT 12 67 (bA 15 8191) HT_.out ?_
         refine pT 13 68 (bA 15 16383) HT_.out ?_
         refine oT 14 (bA 15 32767) HT_.out fun K hK => ?_
         obtain ⟨-, hx_, hf_⟩ := PT_cells HPF.out HHR.out
         have hf2_ := hf_ (i * 2 + 1)
         rw [HUI.out] at hx_
         refine store_stepZ rfl rfl (w1 := wf.setCell ⟨g, i * 2 + 1, none⟩ (.slice Af (insV x.f1 (bsI cs) a1_1).length cf)) (by first | (go_simp; done) | (go_simp; rfl)) ?_
         clear hx_ hf_ hf2_
         refine hK.out _ _ (s2K (w := wf.setCell ⟨g, i * 2 + 1, none⟩ (.slice Af (insV x.f1 (bsI cs) a1_1).length cf)) ⟨blk_far (p := ⟨g, i * 2 + 1, none⟩) BKf.out (fun e => by
           obtain ⟨cur, h3, -⟩ := HPF.out
           have h4 := BKf.out
           rw [e, h3] at h4
           injection h4 with h4
           injection h4 with _ h5
           exact absurd h5 (by decide)) _⟩ ⟨Below.refl _ _⟩) (fun hHeld => ?_)
         clear hK K
         refine zD HT_ ?_
         have HVF := am (addTo_V (PT_put HPF.out HHR.out _) HHR.out (by rw [← HX.out HHR.out]; exact R_PT HUF.out HPF.out _ _) (fun t h hne => R_PT (HRF.out t h hne) HPF.out _ _))
         have HBG := am (below_set (g := g) (j := i * 2 + 1) (v := .slice Af (insV x.f1 (bsI cs) a1_1).length cf) HBF.out (PT_base HPF.out))
         go_wp2
         go_ret2
         exact ⟨_, rfl, Kd.V_mono HVF.out (fun _ hk => .inr hk), HBG.out⟩


end Go.Proofs.YtknmfmedklfepaaGreatDoor.P
