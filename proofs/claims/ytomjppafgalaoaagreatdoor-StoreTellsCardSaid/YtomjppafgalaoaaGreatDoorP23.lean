-- Written by this project's own program (wip/tools/hp.py), driving the kit's print; hand texts among it. Not trusted: Lean checks it.
-- half the indentation
import Derived.Test.YtomjppafgalaoaaGreatDoorP0
namespace Go.Proofs.YtomjppafgalaoaaGreatDoor.P
open Go.RowKit Go.Proofs.YtomjppafgalaoaaGreatDoorW.PrintWords Go.Proofs.YtomjppafgalaoaaGreatDoorW.PrintLast Go.Proofs.YtomjppafgalaoaaGreatDoorW.PrintMore
attribute [local go_sem] max2_int min2_int max_two min_two max_three min_three max_four min_four   -- for this text's walks alone
set_option linter.unusedVariables false
set_option linter.unusedSimpArgs false

/-! ### HAND api_Node_40 -/
-- words that may be wanted: C C_alloc C_at C_below C_drew C_drewN C_nil C_take R_V R_alloc R_apartR R_append R_append_rows R_append_rows_step R_append_step R_append_zeros R_at R_away R_base R_below R_bound R_drew R_drewN R_elderB R_far R_grown R_kept R_keptB R_lit R_lower R_mono R_move R_ne R_nil R_reads R_reads' R_slice R_step R_take R_tight R_typed R_types V_alloc V_at V_below V_bound V_drew V_drewN V_elderB V_far V_grown V_kept V_keptB V_lower V_mono V_nil V_reads' V_slice V_step add_plain alloc append at_int at_string below below_alloc below_drew below_drew1 below_set below_size below_step bind blk_alloc blk_below blk_cell blk_drew blk_drewN blk_far blk_frozen blk_grown blk_kept blk_lt blk_put box_event cell_far cell_kept congr cons done_ drew event_run freshB gate_builtin gate_dst gate_store goesL_ goes_ i32_w i64_w imp_ ite join_ lit map mono nil none norm_ of one one_ own own_base own_lt own_move own_typed own_weaken pure_ pw_below_drewN pw_below_grown refl reps_append reps_drop reps_one reps_take results_list rounds set setCell skip_ start_ store_event string_of_reads take_ trans two_ value_
/-! #### kinds whose elements lead nowhere -/
def FreeK {α : Type} (d : Kd α) : Prop := (∀ w base ok x c, d.M w base ok x c → ∀ w' base' ok', d.M w' base' ok' x c) ∧ (∀ w x c, d.K w x c → ∀ w' base' ok', d.M w' base' ok' x c)
def Fr {α : Type} (d : Kd α) (x : α) (c : List Value) : Prop := ∀ w base ok, d.M w base ok x c
theorem free_string : FreeK Kd.string := ⟨fun _ _ _ _ _ h _ _ _ => h, fun _ _ _ h _ _ _ => h⟩
theorem free_node : FreeK k27 := ⟨fun _ _ _ _ _ h _ _ _ => h, fun _ _ _ h _ _ _ => h⟩
section
variable {α : Type} {d : Kd α} {e base : Nat} {ok : Nat → Prop} {w : World} {v : Value} {xs ys : List α} {inner cs ds : List Value} {R : α → List Value → Prop} {sz : Nat}
theorem raw_R (F : FreeK d) (h : d.R e w base ok v xs) : ∃ inner, w.ownsRow base e d.sz v xs.length inner ∧ Reps (Fr d) d.sz xs inner := by
 obtain ⟨h0, inner, ho, hr⟩ := h
 exact ⟨inner, ho, hr.imp_ (fun p c hp w' base' ok' => F.1 _ _ _ _ _ hp w' base' ok')⟩
theorem R_raw (ho : w.ownsRow base e d.sz v xs.length inner) (hr : Reps (Fr d) d.sz xs inner) (hk : ∀ k, v.ownBlock = some k → ok k) : d.R e w base ok v xs :=
 ⟨hk, inner, ho, hr.imp_ (fun p c hp => hp _ _ _)⟩
theorem reps_take (h : Reps R sz xs cs) (i : Nat) (hi : i ≤ xs.length) : Reps R sz (xs.take i) (cs.take (i * sz)) := by
 have hle : i * sz ≤ xs.length * sz := Nat.mul_le_mul_right _ hi
 refine ⟨by rw [List.length_take, List.length_take, h.1, Nat.min_eq_left hle, Nat.min_eq_left hi], fun j p hj => ?_⟩
 have hji : j < i := by
  have := (List.getElem?_eq_some_iff.1 hj).1
  rw [List.length_take] at this
  omega
 rw [List.getElem?_take_of_lt hji] at hj
 have h1 : j * sz + sz ≤ i * sz := by rw [← Nat.succ_mul]; exact Nat.mul_le_mul_right _ hji
 rw [List.drop_take, List.take_take, Nat.min_eq_left (by omega)]
 exact h.2 j p hj
theorem reps_drop (h : Reps R sz xs cs) (i : Nat) : Reps R sz (xs.drop i) (cs.drop (i * sz)) := by
 refine ⟨by rw [List.length_drop, List.length_drop, h.1, Nat.sub_mul], fun j p hj => ?_⟩
 rw [List.getElem?_drop] at hj
 rw [List.drop_drop, ← Nat.add_mul]
 exact h.2 (i + j) p hj
theorem reps_append (h : Reps R sz xs cs) (h' : Reps R sz ys ds) : Reps R sz (xs ++ ys) (cs ++ ds) := by
 refine ⟨by rw [List.length_append, List.length_append, h.1, h'.1, Nat.add_mul], fun j p hj => ?_⟩
 by_cases hjl : j < xs.length
 ·rw [List.getElem?_append_left hjl] at hj
  have h1 : j * sz + sz ≤ cs.length := by rw [h.1, ← Nat.succ_mul]; exact Nat.mul_le_mul_right _ hjl
  rw [List.drop_append_of_le_length (by omega), List.take_append_of_le_length (by rw [List.length_drop]; omega)]
  exact h.2 j p hj
 ·rw [List.getElem?_append_right (by omega)] at hj
  have h1 : j * sz = cs.length + (j - xs.length) * sz := by rw [h.1, ← Nat.add_mul]; congr 1; omega
  rw [h1, ← List.drop_drop, List.drop_left]
  exact h'.2 _ p hj
theorem reps_one (hR : ∀ p c, R p c → ∀ u ∈ c, u.oneCell' = true) (hs : 0 < sz) (h : Reps R sz xs cs) : ∀ u ∈ cs, u.oneCell' = true := by
 intro u hu
 obtain ⟨k, hk, rfl⟩ := List.getElem_of_mem hu
 have hkl := hk
 rw [h.1] at hkl
 have hj : k / sz < xs.length := Nat.div_lt_of_lt_mul (by rw [Nat.mul_comm]; exact hkl)
 refine hR _ _ (h.2 (k / sz) _ (List.getElem?_eq_getElem hj)) _ ?_
 have hm : k % sz < sz := Nat.mod_lt _ hs
 have hd := Nat.div_add_mod k sz
 rw [Nat.mul_comm] at hd
 rw [List.mem_iff_getElem?]
 refine ⟨k % sz, ?_⟩
 rw [List.getElem?_take_of_lt hm, List.getElem?_drop, hd, List.getElem?_eq_getElem hk]
theorem fr_one (F : FreeK d) (p : α) (c : List Value) (h : Fr d p c) : ∀ u ∈ c, u.oneCell' = true := d.K_one (d.K_of_M (h default 0 (fun _ => True)))
theorem raw_C1 (F : FreeK d) {A : Option Addr} {x : α} (h : d.C w A 1 [x]) : ∃ ad c, A = some ad ∧ c.length = d.sz ∧ Reps (Fr d) d.sz [x] c ∧ ∀ i u, c[i]? = some u → w.cell? (ad.add i) = some u := by
 obtain ⟨-, -, h⟩ := h
 obtain ⟨ad, e, h⟩ := h (by decide)
 obtain ⟨c, hl, hk, hc⟩ := h 0 x rfl
 refine ⟨ad, c, e, hl, ⟨by simp [hl], fun j p hj => ?_⟩, fun i u hu => ?_⟩
 ·cases j with
  | zero =>
   obtain rfl : x = p := by simpa using hj
   rw [Nat.zero_mul, List.drop_zero, ← hl, List.take_length]
   exact fun w' base' ok' => F.2 _ _ _ hk w' base' ok'
  | succ j => simp at hj
 ·have := hc i u hu
  rwa [Nat.zero_mul, Nat.zero_add] at this
end
/-! #### lists -/
theorem ins_list (L inner c : List Value) (N I J M s : Nat) (hJ : J = I + s) (hM : M = N + s) (hN : L.take N = inner) (hNl : inner.length = N) (hI : I ≤ N) (hc : c.length = s) (hL : M ≤ L.length) :
  let L1 := L.take J ++ inner.drop I ++ L.drop (J + (inner.drop I).length)
  let L2 := L1.take I ++ c ++ L1.drop (I + c.length)
  L1.length = L.length ∧ L2.length = L.length ∧ L2.take M = inner.take I ++ c ++ inner.drop I := by
 intro L1 L2
 subst hJ hM
 have hdl : (inner.drop I).length = N - I := by rw [List.length_drop, hNl]
 have e1 : L1.length = L.length := by
  show (L.take (I + s) ++ inner.drop I ++ L.drop (I + s + (inner.drop I).length)).length = _
  simp only [List.length_append, List.length_take, List.length_drop]
  omega
 have e2 : L1.take I = inner.take I := by
  show (L.take (I + s) ++ inner.drop I ++ L.drop (I + s + (inner.drop I).length)).take I = _
  rw [List.append_assoc, List.take_append_of_le_length (by rw [List.length_take]; omega), List.take_take, Nat.min_eq_left (by omega), ← hN, List.take_take, Nat.min_eq_left hI]
 have e3 : L1.drop (I + s) = inner.drop I ++ L.drop (I + s + (inner.drop I).length) := by
  show (L.take (I + s) ++ inner.drop I ++ L.drop (I + s + (inner.drop I).length)).drop (I + s) = _
  rw [List.append_assoc, List.drop_append_of_le_length (by rw [List.length_take]; omega), List.drop_take, Nat.sub_self, List.take_zero, List.nil_append]
 refine ⟨e1, ?_, ?_⟩
 ·show (L1.take I ++ c ++ L1.drop (I + c.length)).length = _
  simp only [List.length_append, List.length_take, List.length_drop, e1]
  omega
 ·show (L1.take I ++ c ++ L1.drop (I + c.length)).take (N + s) = _
  rw [e2, hc, e3]
  have hh : (inner.take I ++ c ++ inner.drop I).length = N + s := by
   simp only [List.length_append, List.length_take, List.length_drop]; omega
  rw [← List.append_assoc, ← hh, List.take_left']
  rfl
theorem grow_list (Z inner c : List Value) (N I J M s : Nat) (hJ : J = I + s) (hM : M = N + s) (hNl : inner.length = N) (hI : I ≤ N) (hc : c.length = s) (hL : M ≤ I + Z.length) :
  let L := inner.take I ++ Z
  let L1 := L.take I ++ c ++ L.drop (I + c.length)
  let L2 := L1.take J ++ inner.drop I ++ L1.drop (J + (inner.drop I).length)
  L1.length = L.length ∧ L2.length = L.length ∧ L2.take M = inner.take I ++ c ++ inner.drop I := by
 intro L L1 L2
 subst hJ hM
 have hil : (inner.take I).length = I := by rw [List.length_take, hNl]; omega
 have hdl : (inner.drop I).length = N - I := by rw [List.length_drop, hNl]
 have hLl : L.length = I + Z.length := by show (inner.take I ++ Z).length = _; rw [List.length_append, hil]
 have e0 : L.take I = inner.take I := by show (inner.take I ++ Z).take I = _; rw [List.take_append_of_le_length (by omega), List.take_of_length_le (by omega)]
 have e1 : L1.length = L.length := by
  show (L.take I ++ c ++ L.drop (I + c.length)).length = _
  simp only [List.length_append, List.length_take, List.length_drop]; omega
 have e2 : L1.take (I + s) = inner.take I ++ c := by
  show (L.take I ++ c ++ L.drop (I + c.length)).take (I + s) = _
  rw [e0]
  have hh : (inner.take I ++ c).length = I + s := by rw [List.length_append, hil, hc]
  rw [← hh, List.take_left']; rfl
 refine ⟨e1, ?_, ?_⟩
 ·show (L1.take (I + s) ++ inner.drop I ++ L1.drop (I + s + (inner.drop I).length)).length = _
  simp only [List.length_append, List.length_take, List.length_drop, e1]; omega
 ·show (L1.take (I + s) ++ inner.drop I ++ L1.drop (I + s + (inner.drop I).length)).take (N + s) = _
  rw [e2]
  have hh : (inner.take I ++ c ++ inner.drop I).length = N + s := by
   simp only [List.length_append, List.length_take, List.length_drop]; omega
  rw [← hh, List.take_left']; rfl
/-! #### the world behind a row that is written -/
theorem grown_setRow (w : World) (g : Nat) (cs : Array Value) : w.grownBy (w.setRow g cs) (some g) :=
 ⟨rfl, rfl, rfl, by rw [setRow_size]; exact Nat.le_refl _, fun k _ h => setRow_other w g k cs (fun e => h (by rw [e]))⟩
theorem grown_setRowD (w : World) (g : Nat) (cs : Array Value) : w.grownBy (w.drew.setRow g cs) (some g) :=
 ⟨rfl, rfl, rfl, by rw [setRow_size]; exact Nat.le_refl _, fun k _ h => setRow_other w.drew g k cs (fun e => h (by rw [e]))⟩
theorem run_copy_rowS {P : Program} (w : World) (dT sT ty elem : TypeId) (sz g o dLen dCap : Nat) (a : Addr) (sLen sCap : Nat) (cur : Array Value) (t : TypeId) (cs : List Value)
  (hu : P.underlying dT = some (.slice elem)) (hs : (P.info? elem).map (·.size) = some sz)
  (hg : w.heap[g]? = some (.cells cur t (0, 0))) (hn : cs.length = Nat.min sLen dLen * sz)
  (hsrc : ∀ j v, cs[j]? = some v → w.cell? (a.add j) = some v) (hfit : o + cs.length ≤ cur.size) (h1 : ∀ v ∈ cs, v.oneCell' = true) :
  (Builtin.copy_ #[dT, sT] ty #[.slice (some ⟨g, o, none⟩) dLen dCap, .slice (some a) sLen sCap]).run P w =
   .ok (goInt (Nat.min sLen dLen)) (w.setRow g (cur.toList.take o ++ cs ++ cur.toList.drop (o + cs.length)).toArray) := by
 have hl := run_loadCells_list (P := P) w a cs hsrc
 have hst := run_storeCells_at P g o t cs 0 cur w hg (by simpa using hfit) h1
 cases hq : P.info? elem with
 | none => simp [hq] at hs
 | some i =>
  have hi : i.size = sz := by simpa [hq] using hs
  simp [Builtin.copy_, run_underlying hu, Builtin.lenOf, Builtin.firstCells, sizeOf, typeInfo, hq, hi, ← hn, hl, hst]
theorem run_overlaps_own {P : Program} (w : World) (tS tR e : TypeId) (ht : P.underlying tS = some (.slice e)) (size : Nat) (hz : ∀ w, (Go.sizeOf e).run P w = .ok size w)
  (a b : Addr) (la ca lb cb : Nat) (hne : a.block ≠ b.block) (ca_ cb_ : Array Value) (tA tB : TypeId) (fA : Nat × Nat)
  (hsa : w.heap[a.block]? = some (.cells ca_ tA fA)) (hsb : w.heap[b.block]? = some (.cells cb_ tB (0, 0))) (hkA : ca_.size ≠ 0) :
  (Extern.SlicesOverlaps.overlaps #[tS, tS] #[tR] #[.slice (some a) la ca, .slice (some b) lb cb]).run P w = .ok (.bool false) w := by
 have hnb : (a.block != b.block) = true := by simpa using hne
 have hnb' : (a.block == b.block) = false := by simpa using hne
 have sa : w.shape? a.block = some (tA, ca_.size) := by simp [World.shape?, hsa]
 have sb : w.shape? b.block = some (tB, cb_.size) := by simp [World.shape?, hsb]
 have fb : ∀ o s, w.frozen? ⟨b.block, o, s⟩ = false := fun o s => by simp [World.frozen?, hsb]
 have fb' : w.frozen? b = false := fb b.off b.spot
 change Sem.run P (α := Value) (do
  let some t := (#[tS, tS] : Array TypeId)[0]? | stuck "slices.overlaps: no parameter types"
  let .slice elem ← underlying t | stuck "slices.overlaps: slice type expected"
  let size ← sizeOf elem
  match (some a : Option Addr), (some b : Option Addr) with
  | some a, some b =>
   if la = 0 ∨ lb = 0 ∨ size = 0 then pure (Value.bool false)
   else if a.block != b.block && (← frozen a) && (← frozen b) then unsupported .addressObserved
   else do
    if a.block != b.block then do
     noView a; noView b
     if ← mayBeOne a b then return Value.bool ((← choose (.extern "sameAddr.stringBytes" 2)) == 1)
    pure (Value.bool (a.block == b.block && a.off < b.off + lb * size && b.off < a.off + la * size))
  | _, _ => pure (Value.bool false)) w = _
 by_cases h0 : la = 0 ∨ lb = 0 ∨ size = 0
 ·simp [run_underlying ht, hz, h0]
 ·cases hk : ca_.size with
  | zero => exact absurd hk hkA
  | succ kA =>
   rw [hk] at sa
   cases hfa : w.frozen? a <;> cases hfe : w.frozen? { block := a.block, off := kA + 1 } <;>
    simp [run_underlying ht, hz, h0, hnb, hnb', frozen, noView, viewAt, mayBeOne, stringish, shape, Sem.run, sa, sb, fb, fb', hfa, hfe]
theorem wpList_copy_runI {ops : Array Oper} {rest : List Oper} {o : Oper} {a : Act} {w : World} {Q : Exit → Act → World → Prop} (hgd : o.guard = none) (d s : Operand) (t t' : TypeId)
  (ho : o.op = .call { callee := .builtin .copy, args := #[d, s], argTypes := #[t, t'] }) (v u : Value) (hd : a.eval d = v) (hs : a.eval s = u) {v' : Value} {w' : World}
  (hr : (Builtin.copy_ #[t, t'] o.type #[v, u]).run Tryz.prog w = .ok v' w') (h : wpList Tryz.prog ops Q rest (a.put o.dst v') w') : wpList Tryz.prog ops Q (o :: rest) a w :=
 wpList_plain hgd fun _ hK => by
  unfold Oper.wp execOp
  simp only [ho, resolve, invoke, builtin, Sem.run_bind, Sem.run_pure, Result.andThen_ok, List.map_toArray, List.map_cons, List.map_nil, hd, hs, hr]
  exact hK _ _ h
theorem step_copy_runI {ops : Array Oper} {o : Oper} {a : Act} {w : World} {K : Act → World → Prop} {Q : Exit → Act → World → Prop} {E : Prop}
  (hg : o.guard = none) (d x : Operand) (dT sT : TypeId) (hop : o.op = Op.call { callee := Callee.builtin Builtin.copy, args := #[d, x], argTypes := #[dT, sT] })
  (v u : Value) (hd : a.eval d = v) (hx : a.eval x = u) {v' : Value} {w' : World} (hr : (Builtin.copy_ #[dT, sT] o.type #[v, u]).run Tryz.prog w = .ok v' w') (hK : K (a.put o.dst v') w') :
  if Region.wanted o (yielded ops a.tmps) = true then Oper.wp Tryz.prog o a w K Q else E := by
 have hw : Region.wanted o (yielded ops a.tmps) = true := by simp [Region.wanted, hg]
 rw [if_pos hw]
 unfold Oper.wp
 simp [execOp, hop, resolve, invoke, builtin, hd, hx, hr, Result.andThen]
 exact hK
theorem step_append_runI {ops : Array Oper} {o : Oper} {a : Act} {w : World} {K : Act → World → Prop} {Q : Exit → Act → World → Prop} {E : Prop}
  (hg : o.guard = none) (d x : Operand) (dT sT : TypeId) (hop : o.op = Op.call { callee := Callee.builtin Builtin.append, args := #[d, x], argTypes := #[dT, sT] })
  (v u : Value) (hd : a.eval d = v) (hx : a.eval x = u) {v' : Value} {w' : World} (hr : (Builtin.append_ #[dT, sT] o.type #[v, u]).run Tryz.prog w = .ok v' w') (hK : K (a.put o.dst v') w') :
  if Region.wanted o (yielded ops a.tmps) = true then Oper.wp Tryz.prog o a w K Q else E := by
 have hw : Region.wanted o (yielded ops a.tmps) = true := by simp [Region.wanted, hg]
 rw [if_pos hw]
 unfold Oper.wp
 simp [execOp, hop, resolve, invoke, builtin, hd, hx, hr, Result.andThen]
 exact hK
theorem wpList_clear_runI {ops : Array Oper} {rest : List Oper} {o : Oper} {a : Act} {w : World} {Q : Exit → Act → World → Prop} (hgd : o.guard = none) (d : Operand) (t : TypeId)
  (ho : o.op = .call { callee := .builtin .clear, args := #[d], argTypes := #[t] }) (v : Value) (hd : a.eval d = v) {v' : Value} {w' : World}
  (hr : (Builtin.clear_ #[t] o.type #[v]).run Tryz.prog w = .ok v' w') (h : wpList Tryz.prog ops Q rest (a.put o.dst v') w') : wpList Tryz.prog ops Q (o :: rest) a w :=
 wpList_plain hgd fun _ hK => by
  unfold Oper.wp execOp
  simp only [ho, resolve, invoke, builtin, Sem.run_bind, Sem.run_pure, Result.andThen_ok, List.map_toArray, List.map_cons, List.map_nil, hd, hr]
  exact hK _ _ h
theorem run_append_rowS {P : Program} (w : World) (t ty e : TypeId) (sz : Nat) (ht : P.underlying t = some (.slice e)) (hs : (P.info? e).map (·.size) = some sz) (g n cap : Nat) (a : Addr) (m c : Nat) (cur : Array Value) (T : TypeId) (news : List Value)
  (hg : w.heap[g]? = some (.cells cur T (0, 0))) (hl : news.length = m * sz) (hnews : ∀ j u, news[j]? = some u → w.cell? (a.add j) = some u) (h1 : ∀ u ∈ news, u.oneCell' = true) (hroom : n + m ≤ cap) (hfit : n * sz + news.length ≤ cur.size) :
  (Builtin.append_ #[t, t] ty #[.slice (some ⟨g, 0, none⟩) n cap, .slice (some a) m c]).run P w = .ok (.slice (some ⟨g, 0, none⟩) (n + m) cap) (w.setRow g (cur.toList.take (n * sz) ++ news ++ cur.toList.drop (n * sz + news.length)).toArray) := by
 cases hq : P.info? e with
 | none => simp [hq] at hs
 | some i =>
  have hi : i.size = sz := by simpa [hq] using hs
  have hfc := run_firstCells_some (P := P) w sz m a m c news hl hnews
  have hst := run_storeCells_at P g (n * sz) T news 0 cur w hg (by simpa using hfit) h1
  simp only [Nat.add_zero] at hst
  simp [Builtin.append_, run_underlying ht, sizeOf, typeInfo, hq, hi, Builtin.lenOf, hroom, hfc, Addr.add_lit, hst]
theorem run_clear_rowS {P : Program} (w : World) (t e ty : TypeId) (z : Value) (ht : P.underlying t = some (.slice e)) (hv : ∀ w, (zeroValue e).run P w = .ok z w) (g o n c : Nat) (cur : Array Value) (T : TypeId) (zs : List Value) (hzs : (Builtin.zeroCells z.cells n).toList = zs)
  (hg : w.heap[g]? = some (.cells cur T (0, 0))) (hn : 0 < n) (hfit : o + zs.length ≤ cur.size) (h1 : ∀ u ∈ zs, u.oneCell' = true) :
  (Builtin.clear_ #[t] ty #[.slice (some ⟨g, o, none⟩) n c]).run P w = .ok (.tuple #[]) (w.setRow g (cur.toList.take o ++ zs ++ cur.toList.drop (o + zs.length)).toArray) := by
 have hst := run_storeCells_at P g o T zs 0 cur w hg (by simpa using hfit) h1
 simp only [Nat.add_zero] at hst
 obtain ⟨m, rfl⟩ : ∃ m, n = m + 1 := ⟨n - 1, by omega⟩
 simp [Builtin.clear_, run_underlying ht, hv, hzs, hst]
theorem dele_list (L inner z : List Value) (N I J M s : Nat) (hJ : J = I + s) (hM : N = M + s) (hN : L.take N = inner) (hNl : inner.length = N) (hI : I ≤ M) (hz : z.length = s) (hL : N ≤ L.length) :
  let L1 := L.take I ++ inner.drop J ++ L.drop (I + (inner.drop J).length)
  let L2 := L1.take M ++ z ++ L1.drop (M + z.length)
  L1.length = L.length ∧ L2.length = L.length ∧ L2.take M = inner.take I ++ inner.drop J := by
 intro L1 L2
 subst hJ hM
 have hdl : (inner.drop (I + s)).length = M - I := by rw [List.length_drop, hNl]; omega
 have hLI : L.take I = inner.take I := by rw [← hN, List.take_take, Nat.min_eq_left (by omega)]
 have e1 : L1.length = L.length := by
  show (L.take I ++ inner.drop (I + s) ++ L.drop (I + (inner.drop (I + s)).length)).length = _
  simp only [List.length_append, List.length_take, hdl, List.length_drop]; omega
 have e2 : L1.take M = inner.take I ++ inner.drop (I + s) := by
  show (L.take I ++ inner.drop (I + s) ++ L.drop (I + (inner.drop (I + s)).length)).take M = _
  have hh : (L.take I ++ inner.drop (I + s)).length = M := by rw [List.length_append, hdl, List.length_take]; omega
  rw [List.take_append_of_le_length (by omega), List.take_of_length_le (by omega), hLI]
 refine ⟨e1, ?_, ?_⟩
 ·show (L1.take M ++ z ++ L1.drop (M + z.length)).length = _
  simp only [List.length_append, List.length_take, List.length_drop, e1]; omega
 ·show (L1.take M ++ z ++ L1.drop (M + z.length)).take M = _
  rw [List.append_assoc, List.take_append_of_le_length (by rw [List.length_take, e1]; omega), List.take_take, Nat.min_self, e2]

/-! #### N: slices.Clone, Insert, Delete -/
def api_Node_40.f (l0 : List (S27)) : Option (List (S27)) := if l0.length ≤ 1000000000 then some l0 else none
def api_Node_23.f (l0 : List (S27)) (a1 : Int) (l2 : List (S27)) : Option (List (S27)) := if l0.length ≤ 1000000000 ∧ 0 ≤ a1 ∧ a1 ≤ (l0.length : Int) ∧ l2.length = 1 then some (l0.take a1.toNat ++ l2 ++ l0.drop a1.toNat) else none
def api_Node_25.f (l0 : List (S27)) (a1 : Int) (a2 : Int) : Option (List (S27)) := if l0.length ≤ 1000000000 ∧ 0 ≤ a1 ∧ a2 = a1 + 1 ∧ a2 ≤ (l0.length : Int) then some (l0.take a1.toNat ++ l0.drop a2.toNat) else none

/-! #### S: slices.Clone, Insert, Delete -/
def slices_Clone_string_string.f (l0 : List (ByteArray)) : Option (List (ByteArray)) := if l0.length ≤ 1000000000 then some l0 else none
def slices_Insert_string_string.f (l0 : List (ByteArray)) (a1 : Int) (l2 : List (ByteArray)) : Option (List (ByteArray)) := if l0.length ≤ 1000000000 ∧ 0 ≤ a1 ∧ a1 ≤ (l0.length : Int) ∧ l2.length = 1 then some (l0.take a1.toNat ++ l2 ++ l0.drop a1.toNat) else none
def slices_Delete_string_string.f (l0 : List (ByteArray)) (a1 : Int) (a2 : Int) : Option (List (ByteArray)) := if l0.length ≤ 1000000000 ∧ 0 ≤ a1 ∧ a2 = a1 + 1 ∧ a2 ≤ (l0.length : Int) then some (l0.take a1.toNat ++ l0.drop a2.toNat) else none

set_option maxRecDepth 100000 in
set_option maxHeartbeats 4000000 in
/-- i < len(s), and there is room. -/
theorem shift_N (g n cap i : Nat) (va : Addr) (vc : Nat) (cur : Array Value) (inner c : List Value) (w : World) (hg : w.heap[g]? = some (.cells cur 27 (0, 0))) (hi : i < n) (hcap : n + 1 ≤ cap) (hc63 : cap ≤ 9223372036854775807)
  (hcur : cur.size = cap * 2) (hik : cur.toList.take (n * 2) = inner) (hcl : c.length = 2) (hva : va.block ≠ g) (hvc : ∀ j u, c[j]? = some u → w.cell? (va.add j) = some u) (h1i : ∀ u ∈ inner, u.oneCell' = true) (h1c : ∀ u ∈ c, u.oneCell' = true)
  (ca_ : Array Value) (tA : TypeId) (fA : Nat × Nat) (hsa : w.heap[va.block]? = some (.cells ca_ tA fA)) (hka : ca_.size ≠ 0) :
  Calls Tryz.prog 23 #[.slice (some ⟨g, 0, none⟩) n cap, .int .i64 i, .slice (some va) 1 vc] w fun e w' => ∃ cur2 : Array Value, e = .returned (.slice (some ⟨g, 0, none⟩) (n + 1) cap) ∧ w' = w.drew.setRow g cur2 ∧ cur2.size = cap * 2 ∧ cur2.toList.take ((n + 1) * 2) = inner.take (i * 2) ++ c ++ inner.drop (i * 2) := by
 have hu := Tryz.underlying22
 have hsz : (Tryz.prog.info? 27).map (·.size) = some 2 := by kernel_rfl
 have hil : inner.length = n * 2 := by rw [← hik, List.length_take, Array.length_toList, hcur]; omega
 obtain ⟨hL1, hL2, hL3⟩ := ins_list cur.toList inner c (n * 2) (i * 2) ((i + 1) * 2) ((n + 1) * 2) 2 (by omega) (by omega) hik hil (by omega) hcl (by rw [Array.length_toList, hcur]; omega)
 have hdl : (inner.drop (i * 2)).length = ((n - i)) * 2 := by have := @List.length_drop _ (i * 2) inner; omega
 obtain ⟨cur1, hcur1⟩ : ∃ cur1 : Array Value, cur1 = (cur.toList.take ((i + 1) * 2) ++ inner.drop (i * 2) ++ cur.toList.drop ((i + 1) * 2 + (inner.drop (i * 2)).length)).toArray := ⟨_, rfl⟩
 have hs1 : cur1.size = cap * 2 := by rw [hcur1, List.size_toArray, hL1, Array.length_toList, hcur]
 have e1 : cur1.toList = cur.toList.take ((i + 1) * 2) ++ inner.drop (i * 2) ++ cur.toList.drop ((i + 1) * 2 + (inner.drop (i * 2)).length) := by rw [hcur1]
 obtain ⟨cur2, hcur2⟩ : ∃ cur2 : Array Value, cur2 = (cur1.toList.take (i * 2) ++ c ++ cur1.toList.drop (i * 2 + c.length)).toArray := ⟨_, rfl⟩
 have e2 : cur2.toList = cur1.toList.take (i * 2) ++ c ++ cur1.toList.drop (i * 2 + c.length) := by rw [hcur2]
 have hz1 : ¬ ((1 : Int) = 0) := by omega
 have hz2 : ¬ ((i : Int) = (n : Int)) := by omega
 have hadd : ∀ o j, Addr.add ⟨g, o, none⟩ j = ⟨g, o + j, none⟩ := fun o j => Addr.add_lit g o j
 have hgc : ∀ j u, inner[j]? = some u → w.cell? ⟨g, j, none⟩ = some u := fun j u hj => by
  have hjl : j < n * 2 := by have := (List.getElem?_eq_some_iff.1 hj).1; omega
  rw [← hik, List.getElem?_take_of_lt hjl, Array.getElem?_toList] at hj
  simp [World.cell?, hg, hj]
 have hov : ∀ o lb cb, (callFunc 42 #[.slice (some va) 1 vc, .slice (some ⟨g, o, none⟩) lb cb]).run Tryz.prog w = .ok (.value (.bool false)) w := fun o lb cb => by
  rw [run_callFunc_extern Tryz.func42 (by kernel_rfl) (by kernel_rfl) (by kernel_rfl) (e := Extern.SlicesOverlaps.overlaps #[22, 22] #[4]) (by kernel_rfl),
   run_overlaps_own w 22 4 27 hu 2 (by intro w; rfl) va ⟨g, o, none⟩ 1 vc lb cb hva ca_ cur tA 27 fA hsa hg hka]
  rfl
 have hcp1 : ∀ ty dc sc, (Builtin.copy_ #[22, 22] ty #[.slice (some ⟨g, (i + 1) * 2, none⟩) (n - i) dc, .slice (some ⟨g, i * 2, none⟩) (n + 1 - i) sc]).run Tryz.prog w.drew = .ok (goInt (Nat.min (n + 1 - i) (n - i))) (w.drew.setRow g cur1) := fun ty dc sc => by
  rw [hcur1]
  exact run_copy_rowS w.drew 22 22 ty 27 2 g ((i + 1) * 2) (n - i) dc ⟨g, i * 2, none⟩ (n + 1 - i) sc cur 27 (inner.drop (i * 2)) hu hsz hg (by rw [hdl]; show _ = min _ _ * _; rw [Nat.min_def]; split <;> omega)
   (fun j v hj => by rw [hadd]; exact hgc _ _ (by rwa [List.getElem?_drop] at hj)) (by rw [hdl, hcur]; omega) (fun v hv => h1i v (List.mem_of_mem_drop hv))
 have hg1 : (w.drew.setRow g cur1).heap[g]? = some (.cells cur1 27 (0, 0)) := setRow_heap w.drew g cur cur1 27 (0, 0) hg
 have hcp2 : ∀ W, W.heap[g]? = some (.cells cur1 27 (0, 0)) → (∀ k, k ≠ g → W.heap[k]? = w.heap[k]?) → ∀ ty dc, (Builtin.copy_ #[22, 22] ty #[.slice (some ⟨g, i * 2, none⟩) (n + 1 - i) dc, .slice (some va) 1 vc]).run Tryz.prog W = .ok (goInt (Nat.min 1 (n + 1 - i))) (W.setRow g cur2) := fun W hW1 hW2 ty dc => by
  rw [hcur2]
  exact run_copy_rowS W 22 22 ty 27 2 g (i * 2) (n + 1 - i) dc va 1 vc cur1 27 c hu hsz hW1 (by rw [hcl]; show _ = min _ _ * _; rw [Nat.min_def]; split <;> omega)
   (fun j v hj => by
    have h := hvc j v hj
    have hb : (va.add j).block = va.block := by unfold Addr.add; split <;> rfl
    unfold World.cell? at h ⊢
    rw [hW2 _ (by rw [hb]; exact hva)]; exact h) (by rw [hcl, hs1]; omega) h1c
 obtain ⟨W1, hW1⟩ : ∃ W1, W1 = w.drew.setRow g cur1 := ⟨_, rfl⟩
 rw [← hW1] at hcp1 hg1
 have hk1 : ∀ k, k ≠ g → W1.heap[k]? = w.heap[k]? := fun k hk => by rw [hW1]; exact setRow_other w.drew g k cur1 hk
 have hw1 : IntKind.i64.wrap ((i : Int) + 1) = (i : Int) + 1 := by rw [IntKind.wrap_i64]; omega
 have hb1 : (0 : Int) ≤ (i : Int) + 1 := by omega
 have hin : i ≤ n := by omega
 have htn : ((i : Int) + 1).toNat = i + 1 := by omega
 have hb2 : ¬ (cap = i + 1) := by omega
 have hb3 : (i : Int) ≤ (n : Int) + 1 := by omega
 have hb5 : (i : Int) ≤ (n : Int) := by omega
 have hb4 : ¬ (cap = i) := by omega
 have hs2 : cur2.size = cap * 2 := by rw [← Array.length_toList, e2, e1, hL2, Array.length_toList, hcur]
 have ht2 : cur2.toList.take ((n + 1) * 2) = inner.take (i * 2) ++ c ++ inner.drop (i * 2) := by rw [e2, e1]; exact hL3
 have HX := Aside0.mk (And.intro hW1 (And.intro hs2 ht2))
 clear hcur2 e2 hs2 ht2 hW1 hcur1 e1 hL1 hL2 hL3 hik hil hdl hcur hs1 hgc hsz hadd h1i h1c hvc
 go_enter Tryz.func23, Tryz.ntmps23
 go_wp2_with (simp only [hov])
 go_region_law (refine step_copy_runI rfl _ _ 22 22 rfl _ _ (by simp [Act.eval, Act.put]) (by simp [Act.eval, Act.put]) (hcp1 _ _ _) ?_)
 have hcp3 := hcp2 W1 hg1 hk1
 clear hcp1 hcp2
 go_wp2_with (first | (simp only [hcp3]) | (at_builtin; refine wpList_copy_runI rfl _ _ 22 22 rfl _ _ rfl rfl (hcp3 _ _) ?_))
 go_ret
 refine ⟨cur2, rfl, ?_, HX.out.2.1, HX.out.2.2⟩
 rw [HX.out.1, setRow_setRow]

set_option maxRecDepth 100000 in
set_option maxHeartbeats 4000000 in
/-- i < len(s), and there is no room. -/
theorem grow_N (g n cap i : Nat) (va : Addr) (vc : Nat) (cur : Array Value) (inner c : List Value) (w : World) (hg : w.heap[g]? = some (.cells cur 27 (0, 0))) (hi : i < n) (hcap : cap = n) (hn : n ≤ 1000000000)
  (hcur : cur.size = cap * 2) (hik : cur.toList.take (n * 2) = inner) (hcl : c.length = 2) (hvc : ∀ j u, c[j]? = some u → w.cell? (va.add j) = some u) (h1i : ∀ u ∈ inner, u.oneCell' = true) (h1c : ∀ u ∈ c, u.oneCell' = true) (hvl : va.block < w.heap.size) :
  Calls Tryz.prog 23 #[.slice (some ⟨g, 0, none⟩) n cap, .int .i64 i, .slice (some va) 1 vc] w fun e w' => ∃ (G : Nat) (cur2 : Array Value), e = .returned (.slice (some ⟨w.heap.size, 0, none⟩) (n + 1) G) ∧ w.grownBy w' none ∧ w'.heap[w.heap.size]? = some (.cells cur2 27 (0, 0)) ∧ n + 1 ≤ G ∧ G ≤ maxLen ∧ cur2.size = G * 2 ∧ cur2.toList.take ((n + 1) * 2) = inner.take (i * 2) ++ c ++ inner.drop (i * 2) := by
 have hu := Tryz.underlying22
 have hsz : (Tryz.prog.info? 27).map (·.size) = some 2 := by kernel_rfl
 obtain ⟨i0, hi0, hz0, hzs, hzb⟩ : ∃ i0, Tryz.prog.info? 27 = some i0 ∧ i0.zero = some (.agg #[(.string ⟨#[]⟩), (.string ⟨#[]⟩)]) ∧ i0.size = 2 ∧ i0.bytes = 32 := by
  have h := info27
  obtain ⟨i0, h1, h2⟩ := Option.map_eq_some_iff.1 h
  injection h2 with h2 h3
  injection h3 with h3 h4
  exact ⟨i0, h1, h2, h3, h4⟩
 have hil : inner.length = n * 2 := by rw [← hik, List.length_take, Array.length_toList, hcur]; omega
 have hdl : (inner.drop (i * 2)).length = ((n - i)) * 2 := by have := @List.length_drop _ (i * 2) inner; omega
 have hgl : g < w.heap.size := (Array.getElem?_eq_some_iff.1 hg).1
 have hadd : ∀ (b o j : Nat), Addr.add ⟨b, o, none⟩ j = ⟨b, o + j, none⟩ := fun b o j => Addr.add_lit b o j
 have hgc : ∀ j u, inner[j]? = some u → w.cell? ⟨g, j, none⟩ = some u := fun j u hj => by
  have hjl : j < n * 2 := by have := (List.getElem?_eq_some_iff.1 hj).1; omega
  rw [← hik, List.getElem?_take_of_lt hjl, Array.getElem?_toList] at hj
  simp [World.cell?, hg, hj]
 have hold : (Builtin.firstCells i0.size i (.slice (some ⟨g, 0, none⟩) i cap)).run Tryz.prog w.drew = .ok (inner.take (i * 2)).toArray w.drew := by
  rw [hzs]
  refine run_firstCells_some w.drew 2 i ⟨g, 0, none⟩ i cap (inner.take (i * 2)) (by rw [List.length_take, hil]; omega) (fun j v hj => ?_)
  rw [hadd, Nat.zero_add]
  have hji : j < i * 2 := by have := (List.getElem?_eq_some_iff.1 hj).1; rw [List.length_take] at this; omega
  rw [List.getElem?_take_of_lt hji] at hj
  exact hgc _ _ hj
 obtain ⟨G, hG⟩ : ∃ G, G = grownCap w (n + 1) cap 27 := ⟨_, rfl⟩
 have hGn : n + 1 ≤ G := by rw [hG]; exact grownCap_ge w _ _ _
 have hG63 : G ≤ maxLen := by rw [hG]; exact grownCap_le_maxLen w (n + 1) cap 27 (by unfold maxLen; omega)
 obtain ⟨ROW, hROW⟩ : ∃ ROW : Array Value, ROW = (inner.take (i * 2)).toArray ++ Builtin.zeroCells ((.agg #[(.string ⟨#[]⟩), (.string ⟨#[]⟩)]) : Value).cells (n + 1 - i) ++ Builtin.zeroCells ((.agg #[(.string ⟨#[]⟩), (.string ⟨#[]⟩)]) : Value).cells (G - (n + 1)) := ⟨_, rfl⟩
 obtain ⟨Zs, hZs⟩ : ∃ Zs : List Value, Zs = (Builtin.zeroCells ((.agg #[(.string ⟨#[]⟩), (.string ⟨#[]⟩)]) : Value).cells (n + 1 - i) ++ Builtin.zeroCells ((.agg #[(.string ⟨#[]⟩), (.string ⟨#[]⟩)]) : Value).cells (G - (n + 1))).toList := ⟨_, rfl⟩
 have hzl : Zs.length = ((G - i)) * 2 := by rw [hZs]; simp [Builtin.zeroCells, Value.cells]; omega
 have eR : ROW.toList = inner.take (i * 2) ++ Zs := by rw [hROW, hZs]; simp
 have hRs : ROW.size = G * 2 := by rw [← Array.length_toList, eR, List.length_append, hzl, List.length_take, hil]; omega
 obtain ⟨hL1, hL2, hL3⟩ := grow_list Zs inner c (n * 2) (i * 2) ((i + 1) * 2) ((n + 1) * 2) 2 (by omega) (by omega) hil (by omega) hcl (by rw [hzl]; omega)
 obtain ⟨cur1, hcur1⟩ : ∃ cur1 : Array Value, cur1 = (ROW.toList.take (i * 2) ++ c ++ ROW.toList.drop (i * 2 + c.length)).toArray := ⟨_, rfl⟩
 have e1 : cur1.toList = ROW.toList.take (i * 2) ++ c ++ ROW.toList.drop (i * 2 + c.length) := by rw [hcur1]
 have hs1 : cur1.size = G * 2 := by rw [← Array.length_toList, e1, eR, hL1, ← eR, Array.length_toList, hRs]
 obtain ⟨cur2, hcur2⟩ : ∃ cur2 : Array Value, cur2 = (cur1.toList.take ((i + 1) * 2) ++ inner.drop (i * 2) ++ cur1.toList.drop ((i + 1) * 2 + (inner.drop (i * 2)).length)).toArray := ⟨_, rfl⟩
 have e2 : cur2.toList = cur1.toList.take ((i + 1) * 2) ++ inner.drop (i * 2) ++ cur1.toList.drop ((i + 1) * 2 + (inner.drop (i * 2)).length) := by rw [hcur2]
 have hs2 : cur2.size = G * 2 := by rw [← Array.length_toList, e2, e1, eR, hL2, ← eR, Array.length_toList, hRs]
 have ht2 : cur2.toList.take ((n + 1) * 2) = inner.take (i * 2) ++ c ++ inner.drop (i * 2) := by rw [e2, e1, eR]; exact hL3
 -- the three events
 obtain ⟨W1, hW1⟩ : ∃ W1, W1 = w.drew.alloc (.cells ROW 27) := ⟨_, rfl⟩
 have hrz : ∀ ty, (Builtin.append_ #[22, 3] ty #[.slice (some ⟨g, 0, none⟩) i cap, .int .i64 ((n : Int) + 1 - (i : Int))]).run Tryz.prog w = .ok (.slice (some ⟨w.heap.size, 0, none⟩) (n + 1) G) W1 := fun ty => by
  have h := Lib.run_append_grow_zeros w 22 3 ty 27 i0 _ .i64 .i64 hu Tryz.underlying3 hi0 hz0 (some ⟨g, 0, none⟩) i cap (inner.take (i * 2)) hold (n + 1 - i) (by omega) (by omega) (by omega) (by omega) (by rw [hzb]; omega) (by rw [hzb, show i + (n + 1 - i) = n + 1 by omega]; exact growslice_fits (by omega) (by omega))
  rw [show i + (n + 1 - i) = n + 1 by omega, ← hG, ← hROW, ← hW1] at h
  rw [show (n : Int) + 1 - (i : Int) = ((n + 1 - i : Nat) : Int) by omega]
  exact h
 have hg1 : W1.heap[w.heap.size]? = some (.cells ROW 27 (0, 0)) := by rw [hW1]; exact heap_alloc_new w.drew _
 have hk1 : ∀ k, k < w.heap.size → W1.heap[k]? = w.heap[k]? := fun k hk => by rw [hW1]; exact (below_alloc (below_drew (Below.refl w.heap.size w)) _).block k hk
 have hW1g : w.grownBy W1 none := by rw [hW1]; exact ⟨rfl, rfl, rfl, by simp [World.alloc], fun k hk _ => (below_alloc (below_drew (Below.refl w.heap.size w)) _).block k hk⟩
 obtain ⟨W2, hW2⟩ : ∃ W2, W2 = W1.setRow w.heap.size cur1 := ⟨_, rfl⟩
 have hcpA : ∀ ty dc, (Builtin.copy_ #[22, 22] ty #[.slice (some ⟨w.heap.size, i * 2, none⟩) (n + 1 - i) dc, .slice (some va) 1 vc]).run Tryz.prog W1 = .ok (goInt (Nat.min 1 (n + 1 - i))) W2 := fun ty dc => by
  rw [hW2, hcur1]
  exact run_copy_rowS W1 22 22 ty 27 2 w.heap.size (i * 2) (n + 1 - i) dc va 1 vc ROW 27 c hu hsz hg1 (by rw [hcl]; show _ = min _ _ * _; rw [Nat.min_def]; split <;> omega)
   (fun j v hj => by
    have h := hvc j v hj
    have hb : (va.add j).block = va.block := by unfold Addr.add; split <;> rfl
    unfold World.cell? at h ⊢
    rw [hk1 _ (by rw [hb]; exact hvl)]; exact h) (by rw [hcl, hRs]; omega) h1c
 have hg2 : W2.heap[w.heap.size]? = some (.cells cur1 27 (0, 0)) := by rw [hW2]; exact setRow_heap W1 _ ROW cur1 27 (0, 0) hg1
 have hk2 : ∀ k, k < w.heap.size → W2.heap[k]? = w.heap[k]? := fun k hk => by rw [hW2, setRow_other W1 _ k cur1 (by omega)]; exact hk1 k hk
 obtain ⟨W3, hW3⟩ : ∃ W3, W3 = W2.drew.setRow w.heap.size cur2 := ⟨_, rfl⟩
 have hcpB : ∀ ty dc sc, (Builtin.copy_ #[22, 22] ty #[.slice (some ⟨w.heap.size, (i + 1) * 2, none⟩) (n - i) dc, .slice (some ⟨g, i * 2, none⟩) (n - i) sc]).run Tryz.prog W2.drew = .ok (goInt (Nat.min (n - i) (n - i))) W3 := fun ty dc sc => by
  rw [hW3, hcur2]
  exact run_copy_rowS W2.drew 22 22 ty 27 2 w.heap.size ((i + 1) * 2) (n - i) dc ⟨g, i * 2, none⟩ (n - i) sc cur1 27 (inner.drop (i * 2)) hu hsz hg2 (by rw [hdl]; show _ = min (n - i) (n - i) * _; omega)
   (fun j v hj => by
    rw [hadd]
    have h := hgc _ v (by rwa [List.getElem?_drop] at hj)
    unfold World.cell? at h ⊢
    show (match W2.heap[g]? with | some (.cells c _ _) => _ | _ => _) = _
    rw [hk2 g hgl]; exact h) (by rw [hdl, hs1]; omega) (fun v hv => h1i v (List.mem_of_mem_drop hv))
 have hg3 : W3.heap[w.heap.size]? = some (.cells cur2 27 (0, 0)) := by rw [hW3]; exact setRow_heap W2.drew _ cur1 cur2 27 (0, 0) hg2
 have hgr : w.grownBy W3 none := by
  rw [hW3]
  refine ⟨?_, ?_, ?_, ?_, fun k hk _ => ?_⟩
  ·rw [setRow_os, hW2]; exact hW1g.os
  ·rw [setRow_tape, hW2]; exact hW1g.tape
  ·rw [setRow_output, hW2]; exact hW1g.output
  ·rw [setRow_size, hW2]; show _ ≤ (W1.setRow _ _).heap.size; rw [setRow_size]; exact hW1g.size
  ·rw [setRow_other W2.drew _ k cur2 (by omega)]; exact hk2 k hk
 have hz1 : ¬ ((1 : Int) = 0) := by omega
 have hz2 : ¬ ((i : Int) = (n : Int)) := by omega
 have hz3 : (cap : Int) < (n : Int) + 1 := by omega
 have hw1 : IntKind.i64.wrap ((i : Int) + 1) = (i : Int) + 1 := by rw [IntKind.wrap_i64]; omega
 have hb1 : (0 : Int) ≤ (i : Int) + 1 := by omega
 have hin : i ≤ n := by omega
 have htn : ((i : Int) + 1).toNat = i + 1 := by omega
 have hb3 : (i : Int) ≤ (n : Int) := by omega
 have hb4 : ¬ (cap = i) := by omega
 have hb6 : (i : Int) ≤ (cap : Int) := by omega
 have hGi : ¬ (G = i) := by omega
 have hGim : ¬ (G = i + 1) := by omega
 have hG63' : G ≤ 9223372036854775807 := by unfold maxLen at hG63; omega
 have hc63 : cap ≤ 9223372036854775807 := by omega
 have HX := Aside0.mk (And.intro hgr (And.intro hg3 (And.intro hGn (And.intro hG63 (And.intro hs2 ht2)))))
 clear hgr hg3 hs2 ht2 hW3 hW2 hW1 hg1 hg2 hk1 hk2 hW1g hcur2 hcur1 e1 e2 eR hL1 hL2 hL3 hs1 hRs hzl hZs hROW hG hold hgc hadd hgl hdl hil hik hcur hvc h1i h1c hG63 hi0 hz0 hzs hzb hcap
 go_enter Tryz.func23, Tryz.ntmps23
 go_wp2_with (first | (simp only [hrz]) | (simp only [hcpA]) | (at_builtin; refine Lib.wpList_append_run _ rfl _ _ _ _ rfl _ _ rfl rfl _ _ (hrz _) ?_) | (at_builtin; refine wpList_copy_runI rfl _ _ 22 22 rfl _ _ rfl rfl (hcpA _ _) ?_))
 go_region_law (refine step_copy_runI rfl _ _ 22 22 rfl _ _ (by simp [Act.eval, Act.put]) (by simp [Act.eval, Act.put]) (hcpB _ _ _) ?_)
 go_wp2
 go_ret
 exact ⟨G, cur2, rfl, HX.out⟩

set_option maxHeartbeats 1000000 in
theorem api_Node_23.tail (P0_ : Nat → Prop) (u0 : Value) (l0 : List (S27)) (va : Option Addr) (vc : Nat) (x : S27) (w0 w : World) (hB : Below w0.heap.size w0 w) (ho0 : Kd.R k27 27 w w0.heap.size (fun k_ => P0_ k_) u0 l0) (hr : Kd.C k27 w va 1 [x]) (hl : l0.length ≤ 1000000000) :
  Calls Tryz.prog 23 #[u0, .int .i64 (l0.length : Nat), .slice va 1 vc] w fun e w' => ∃ v0_ : Value, e = .returned v0_ ∧ Kd.R k27 27 w' w0.heap.size (fun k_ => (P0_ k_ ∨ w.heap.size ≤ k_)) v0_ (l0 ++ [x]) ∧ Below w0.heap.size w0 w' ∧ Kept w w' (fun k_ => P0_ k_) := by
 have HO := Aside0.mk (Kd.R_mono (ok' := fun k_ => (P0_ k_ ∨ w.heap.size ≤ k_)) ho0 (fun _ h => .inl h))
 have HK := Aside0.mk ho0.1
 have HR := Aside0.mk hr
 have HB := Aside0.mk hB
 have hS : w0.heap.size ≤ w.heap.size := hB.size
 have hz1 : ¬ ((1 : Int) = 0) := by omega
 obtain ⟨inner, ho, -⟩ := raw_R free_node ho0
 have hlt := ho.lt
 rcases ho.2 with ⟨rfl, hn0⟩ | ⟨g, cap, cur, rfl, hbg, hg, hnc, hcm, hcs, hct⟩
 ·obtain rfl : l0 = [] := List.eq_nil_of_length_eq_zero hn0
  clear hB ho0 hr ho hn0 hlt
  go_enter Tryz.func23, Tryz.ntmps23
  go_wp2_with (((with_reducible refine gate_builtin (b := .append) (xs := #[.tmp 23, .tmp 24]) rfl ?_); at_builtin; refine Kd.R_append_rows k27 (w0 := w0) w0.heap.size rfl (.tmp 23) (.tmp 24) 22 27 (.agg #[(.string ⟨#[]⟩), (.string ⟨#[]⟩)]) 32 rfl Tryz.underlying22 info27 rfl (by decide) (by omega) _ [] [x] _ _ _ (fun k_ => (P0_ k_ ∨ w.heap.size ≤ k_)) (fun _ => False) rfl rfl HO.out ?aR (fun _ _ h => h) (fun _ h => h.elim) (fun _ h => .inr h) HB.out hS (by simp) ?_; (case aR => exact HR.out); intro v7 w7 ho hb hg hat; clear HO HB; have HO := Aside0.mk ho; have HB := Aside0.mk hb; have HG := Aside0.mk hg; clear ho hb hg hat))
  go_ret
  exact ⟨_, rfl, HO.out, HB.out, Kept.of_grown HG.out (Kept.refl _ _) (fun k hk => .inl (HK.out k hk))⟩
 ·obtain ⟨n, hn⟩ : ∃ n, n = l0.length := ⟨_, rfl⟩
  rw [← hn] at hnc hl
  have hcm' : cap ≤ 9223372036854775807 := by unfold maxLen at hcm; omega
  rw [← hn]
  have HN := Aside0.mk hn
  have HO' := Aside0.mk (show Kd.R k27 27 w w0.heap.size (fun k_ => (P0_ k_ ∨ w.heap.size ≤ k_)) (.slice (some ⟨g, 0, none⟩) n cap) l0 from by rw [hn]; exact HO.out)
  have HK' := Aside0.mk (show P0_ g from HK.out g rfl)
  clear HO HK
  have HO := HO'
  have HK := HK'
  clear HO' HK' hB ho0 hr ho hlt hg hcs hct hcm hn
  go_enter Tryz.func23, Tryz.ntmps23
  go_wp2_with (((with_reducible refine gate_builtin (b := .append) (xs := #[.tmp 23, .tmp 24]) rfl ?_); at_builtin; refine Kd.R_append_rows k27 (w0 := w0) w0.heap.size rfl (.tmp 23) (.tmp 24) 22 27 (.agg #[(.string ⟨#[]⟩), (.string ⟨#[]⟩)]) 32 rfl Tryz.underlying22 info27 rfl (by decide) (by omega) _ l0 [x] _ _ _ (fun k_ => (P0_ k_ ∨ w.heap.size ≤ k_)) (fun _ => False) rfl rfl HO.out ?aR (fun _ _ h => h) (fun _ h => h.elim) (fun _ h => .inr h) HB.out hS (by rw [← HN.out]; omega) ?_; (case aR => exact HR.out); intro v7 w7 ho hb hg hat; clear HO HB; have HO := Aside0.mk ho; have HB := Aside0.mk hb; have HG := Aside0.mk hg; clear ho hb hg hat))
  all_goals
   go_ret
   exact ⟨_, rfl, HO.out, HB.out, Kept.of_grown HG.out (Kept.refl _ _) (fun k hk => .inl (by cases hk; exact HK.out))⟩
set_option maxHeartbeats 1000000 in
theorem api_Node_23.calls (P0_ : Nat → Prop) (u0 : Value) (l0 : List (S27)) (a1 : Int) (A2 : Option Addr) (c2 : Nat) (l2 : List (S27)) (r : List (S27)) (w0 : World) (w : World) (hB : Below w0.heap.size w0 w) (ho0 : Kd.R k27 27 w w0.heap.size (fun k_ => P0_ k_) u0 l0) (hr2 : ∀ W_, Kept w W_ (fun k_ => P0_ k_) → Kd.C k27 W_ A2 l2.length l2) (hc2 : l2.length ≤ c2) (h : api_Node_23.f l0 a1 l2 = some r) :
  Calls Tryz.prog 23 #[u0, .int .i64 a1, .slice A2 l2.length c2] w fun e w' => ∃ v0_ : Value, e = .returned v0_ ∧ Kd.R k27 27 w' w0.heap.size (fun k_ => (P0_ k_ ∨ w.heap.size ≤ k_)) v0_ r ∧ Below w0.heap.size w0 w' ∧ Kept w w' (fun k_ => P0_ k_) := by
 unfold api_Node_23.f at h
 split at h
 case isFalse => cases h
 rename_i hh
 obtain ⟨hl, h0, h1, h2⟩ := hh
 obtain rfl := Option.some.inj h
 obtain ⟨i, rfl⟩ : ∃ i : Nat, a1 = (i : Int) := ⟨a1.toNat, by omega⟩
 obtain ⟨x, rfl⟩ := List.length_eq_one_iff.1 h2
 rw [Int.toNat_natCast]
 have hr := hr2 w (Kept.refl _ _)
 by_cases hi : i < l0.length
 case neg =>
  obtain rfl : i = l0.length := by omega
  rw [List.take_length, List.drop_length, List.append_nil]
  exact api_Node_23.tail P0_ u0 l0 A2 c2 x w0 w hB ho0 hr hl
 obtain ⟨va, c, rfl, hcl, hcr, hvc⟩ := raw_C1 free_node hr
 change c.length = 2 at hcl
 obtain ⟨inner, ho, hir⟩ := raw_R free_node ho0
 have h1i := reps_one (fr_one free_node) (by decide) hir
 have h1c := reps_one (fr_one free_node) (by decide) hcr
 rcases ho.2 with ⟨rfl, hn0⟩ | ⟨g, cap, cur, rfl, hbg, hg, hnc, hcm, hcs, hct⟩
 ·omega
 change cur.size = cap * 2 at hcs
 change cur.toList.take (l0.length * 2) = inner at hct
 try rw [Nat.mul_one] at hcs hct
 have hP : P0_ g := ho0.1 g rfl
 have hgl : g < w.heap.size := (Array.getElem?_eq_some_iff.1 hg).1
 have hcm' : cap ≤ 9223372036854775807 := by unfold maxLen at hcm; omega
 have hk : (k27).sz = 2 := rfl
 have hRep : Reps (Fr k27) 2 (l0.take i ++ [x] ++ l0.drop i) (inner.take (i * 2) ++ c ++ inner.drop (i * 2)) := by
  have h := reps_append (reps_append (reps_take hir i (by omega)) hcr) (reps_drop hir i)
  simp only [hk, Nat.mul_one] at h
  exact h
 have hRl : (l0.take i ++ [x] ++ l0.drop i).length = l0.length + 1 := by simp only [List.length_append, List.length_take, List.length_drop, List.length_cons, List.length_nil]; omega
 have hcz : 0 < c.length := by omega
 have hcell := hvc 0 c[0] (List.getElem?_eq_getElem hcz)
 obtain ⟨ca, tA, fA, hsa, hka⟩ : ∃ (ca : Array Value) (tA : TypeId) (fA : Nat × Nat), w.heap[va.block]? = some (.cells ca tA fA) ∧ ca.size ≠ 0 := by
  have hb : (va.add 0).block = va.block := by unfold Addr.add; split <;> rfl
  unfold World.cell? at hcell
  rw [hb] at hcell
  split at hcell
  case h_2 => cases hcell
  rename_i cs t f hh
  refine ⟨cs, t, f, hh, fun h0 => ?_⟩
  rw [Array.eq_empty_of_size_eq_zero h0] at hcell
  revert hcell
  cases (va.add 0).spot <;> simp
 by_cases hroom : l0.length + 1 ≤ cap
 ·have hva : va.block ≠ g := by
   intro e
   have hkk : Kept w (w.setRow g #[]) (fun k_ => P0_ k_) := Kept.of_grown (grown_setRow w g #[]) (Kept.refl _ _) (fun k hk => .inl (by cases hk; exact hP))
   obtain ⟨ad, c', e', hcl', -, hvc'⟩ := raw_C1 free_node (hr2 _ hkk)
   cases e'
   have hz : 0 < c'.length := by rw [hcl']; decide
   have := hvc' 0 c'[0] (List.getElem?_eq_getElem hz)
   have hb : (va.add 0).block = va.block := by unfold Addr.add; split <;> rfl
   unfold World.cell? at this
   rw [hb, e, setRow_heap w g cur #[] 27 (0, 0) hg] at this
   revert this
   cases (va.add 0).spot <;> simp
  refine (shift_N g l0.length cap i va c2 cur inner c w hg hi hroom hcm' hcs hct hcl hva hvc h1i h1c ca tA fA hsa hka).mono ?_
  rintro e w' ⟨cur2, rfl, rfl, hs2, ht2⟩
  have hgr : w.grownBy (w.drew.setRow g cur2) (some g) := grown_setRowD w g cur2
  refine ⟨_, rfl, R_raw (inner := inner.take (i * 2) ++ c ++ inner.drop (i * 2)) ?_ hRep (fun k hk => .inl ?_), Below.grown hB hgr hB.size (fun k hk => by cases hk; exact hbg), Kept.of_grown hgr (Kept.refl _ _) (fun k hk => .inl (by cases hk; exact hP))⟩
  ·rw [hRl]
   exact ⟨by rw [hRep.1, hRl, hk], .inr ⟨g, cap, cur2, rfl, hbg, setRow_heap w.drew g cur cur2 27 (0, 0) hg, hroom, hcm, by first | exact hs2 | (rw [hk, Nat.mul_one]; exact hs2), by first | exact ht2 | (rw [hk, Nat.mul_one]; exact ht2)⟩⟩
  ·cases hk; exact hP
 ·have hvl : va.block < w.heap.size := (Array.getElem?_eq_some_iff.1 hsa).1
  refine (grow_N g l0.length cap i va c2 cur inner c w hg hi (by omega) hl hcs hct hcl hvc h1i h1c hvl).mono ?_
  rintro e w' ⟨G, cur2, rfl, hgr, hg2, hG1, hG2, hs2, ht2⟩
  refine ⟨_, rfl, R_raw (inner := inner.take (i * 2) ++ c ++ inner.drop (i * 2)) ?_ hRep (fun k hk => .inr ?_), Below.grown hB hgr hB.size (fun k hk => by cases hk), Kept.of_grown hgr (Kept.refl _ _) (fun k hk => by cases hk)⟩
  ·rw [hRl]
   exact ⟨by rw [hRep.1, hRl, hk], .inr ⟨w.heap.size, G, cur2, rfl, hB.size, hg2, hG1, hG2, by first | exact hs2 | (rw [hk, Nat.mul_one]; exact hs2), by first | exact ht2 | (rw [hk, Nat.mul_one]; exact ht2)⟩⟩
  ·cases hk; exact Nat.le_refl _
set_option maxRecDepth 100000 in
set_option maxHeartbeats 4000000 in
/-- slices.Delete of one. -/
theorem cut_N (g n cap i : Nat) (cur : Array Value) (inner : List Value) (w : World) (hg : w.heap[g]? = some (.cells cur 27 (0, 0))) (hi : i < n) (hcap : n ≤ cap) (hc63 : cap ≤ 9223372036854775807)
  (hcur : cur.size = cap * 2) (hik : cur.toList.take (n * 2) = inner) (h1i : ∀ u ∈ inner, u.oneCell' = true) :
  Calls Tryz.prog 25 #[.slice (some ⟨g, 0, none⟩) n cap, .int .i64 i, .int .i64 ((i : Int) + 1)] w fun e w' => ∃ cur2 : Array Value, e = .returned (.slice (some ⟨g, 0, none⟩) (n - 1) cap) ∧ w' = w.drew.setRow g cur2 ∧ cur2.size = cap * 2 ∧ cur2.toList.take ((n - 1) * 2) = inner.take (i * 2) ++ inner.drop ((i + 1) * 2) := by
 have hu := Tryz.underlying22
 have hsz : (Tryz.prog.info? 27).map (·.size) = some 2 := by kernel_rfl
 have hzv : ∀ w, (zeroValue 27).run Tryz.prog w = .ok (.agg #[(.string ⟨#[]⟩), (.string ⟨#[]⟩)]) w := by intro w; kernel_rfl
 have hil : inner.length = n * 2 := by rw [← hik, List.length_take, Array.length_toList, hcur]; omega
 obtain ⟨z, hzz, hzl, h1z⟩ : ∃ z : List Value, (Builtin.zeroCells ((.agg #[(.string ⟨#[]⟩), (.string ⟨#[]⟩)]) : Value).cells 1).toList = z ∧ z.length = 2 ∧ ∀ u ∈ z, u.oneCell' = true := ⟨[.string ⟨#[]⟩, .string ⟨#[]⟩], by kernel_rfl, rfl, by simp [Value.oneCell']⟩
 obtain ⟨hL1, hL2, hL3⟩ := dele_list cur.toList inner z (n * 2) (i * 2) ((i + 1) * 2) ((n - 1) * 2) 2 (by omega) (by omega) hik hil (by omega) hzl (by rw [Array.length_toList, hcur]; omega)
 have hdl : (inner.drop ((i + 1) * 2)).length = ((n - (i + 1))) * 2 := by have := @List.length_drop _ ((i + 1) * 2) inner; omega
 obtain ⟨cur1, hcur1⟩ : ∃ cur1 : Array Value, cur1 = (cur.toList.take (i * 2) ++ inner.drop ((i + 1) * 2) ++ cur.toList.drop (i * 2 + (inner.drop ((i + 1) * 2)).length)).toArray := ⟨_, rfl⟩
 have e1 : cur1.toList = cur.toList.take (i * 2) ++ inner.drop ((i + 1) * 2) ++ cur.toList.drop (i * 2 + (inner.drop ((i + 1) * 2)).length) := by rw [hcur1]
 have hs1 : cur1.size = cap * 2 := by rw [← Array.length_toList, e1, hL1, Array.length_toList, hcur]
 obtain ⟨cur2, hcur2⟩ : ∃ cur2 : Array Value, cur2 = (cur1.toList.take ((n - 1) * 2) ++ z ++ cur1.toList.drop ((n - 1) * 2 + z.length)).toArray := ⟨_, rfl⟩
 have e2 : cur2.toList = cur1.toList.take ((n - 1) * 2) ++ z ++ cur1.toList.drop ((n - 1) * 2 + z.length) := by rw [hcur2]
 have hgc : ∀ j u, inner[j]? = some u → w.cell? ⟨g, j, none⟩ = some u := fun j u hj => by
  have hjl : j < n * 2 := by have := (List.getElem?_eq_some_iff.1 hj).1; omega
  rw [← hik, List.getElem?_take_of_lt hjl, Array.getElem?_toList] at hj
  simp [World.cell?, hg, hj]
 obtain ⟨A, hA, hsrc⟩ : ∃ A : Addr, (if cap = i + 1 then some (⟨g, 0, none⟩ : Addr) else some ⟨g, (i + 1) * 2, none⟩) = some A ∧ Aside0 (∀ j u, (inner.drop ((i + 1) * 2))[j]? = some u → w.drew.cell? (A.add j) = some u) := by
  by_cases hc : cap = i + 1
  ·refine ⟨⟨g, 0, none⟩, by rw [if_pos hc], ⟨fun j u hj => ?_⟩⟩
   have := (List.getElem?_eq_some_iff.1 hj).1
   omega
  ·refine ⟨⟨g, (i + 1) * 2, none⟩, by rw [if_neg hc], ⟨fun j u hj => ?_⟩⟩
   rw [Addr.add_lit]
   exact hgc _ _ (by rwa [List.getElem?_drop] at hj)
 obtain ⟨W1, hW1⟩ : ∃ W1, W1 = w.drew.setRow g cur1 := ⟨_, rfl⟩
 have hap : ∀ ty c, (Builtin.append_ #[22, 22] ty #[.slice (some ⟨g, 0, none⟩) i cap, .slice (some A) (n - (i + 1)) c]).run Tryz.prog w.drew = .ok (.slice (some ⟨g, 0, none⟩) (i + (n - (i + 1))) cap) W1 := fun ty c => by
  rw [hW1, hcur1]
  have h := run_append_rowS (P := Tryz.prog) w.drew 22 ty 27 2 hu hsz g i cap A (n - (i + 1)) c cur 27 (inner.drop ((i + 1) * 2)) hg (by rw [hdl]; try omega) hsrc.out (fun v hv => h1i v (List.mem_of_mem_drop hv)) (by omega) (by rw [hdl, hcur]; omega)
  first | exact h | simpa only [Nat.mul_one] using h
 have hg1 : W1.heap[g]? = some (.cells cur1 27 (0, 0)) := by rw [hW1]; exact setRow_heap w.drew g cur cur1 27 (0, 0) hg
 have hcl : ∀ ty c, (Builtin.clear_ #[22] ty #[.slice (some ⟨g, (n - 1) * 2, none⟩) 1 c]).run Tryz.prog W1 = .ok (.tuple #[]) (W1.setRow g cur2) := fun ty c => by
  rw [hcur2]
  exact run_clear_rowS W1 22 27 ty (.agg #[(.string ⟨#[]⟩), (.string ⟨#[]⟩)]) hu hzv g ((n - 1) * 2) 1 c cur1 27 z hzz hg1 (by omega) (by rw [hzl, hs1]; omega) h1z
 have hs2 : cur2.size = cap * 2 := by rw [← Array.length_toList, e2, e1, hL2, Array.length_toList, hcur]
 have ht2 : cur2.toList.take ((n - 1) * 2) = inner.take (i * 2) ++ inner.drop ((i + 1) * 2) := by rw [e2, e1]; exact hL3
 have HX := Aside0.mk (And.intro hW1 (And.intro hs2 ht2))
 have hz2 : ¬ ((i : Int) = (i : Int) + 1) := by omega
 have hb1 : (i : Int) ≤ (n : Int) := by omega
 have hb2 : (i : Int) + 1 ≤ (n : Int) := by omega
 have hb3 : (i : Int) + 1 ≤ (cap : Int) := by omega
 have hb5 : (i : Int) ≤ (cap : Int) := by omega
 have hb4 : (0 : Int) ≤ (i : Int) + 1 := by omega
 have htn : ((i : Int) + 1).toNat = i + 1 := by omega
 have hnn : i + (n - (i + 1)) = n - 1 := by omega
 have hn1 : n - (n - 1) = 1 := by omega
 have hcn : ¬ (cap = n - 1) := by omega
 rw [hnn] at hap
 clear hcur2 e2 hs2 ht2 hW1 hcur1 e1 hL1 hL2 hL3 hik hil hdl hcur hs1 hgc hsz h1i hzv hzz hzl h1z hsrc hg1 hnn
 go_enter Tryz.func25, Tryz.ntmps25
 go_wp2_with fail
 go_region_law ((refine step_append_runI (v' := .slice (some ⟨g, 0, none⟩) (n - 1) cap) (w' := W1) rfl (.tmp 22) (.tmp 25) 22 22 rfl (.slice (some ⟨g, 0, none⟩) i cap) (.slice (some A) (n - (i + 1)) (cap - (i + 1))) ?h1 ?h2 ?h3 ?_); (case h3 => exact hap _ _); (case h1 => (simp [Act.eval, Act.put])); (case h2 => (simp [Act.eval, Act.put])))
 go_wp2_with (first | (simp only [hcl]) | (at_builtin; refine wpList_clear_runI rfl _ 22 rfl _ rfl (hcl _ _) ?_))
 go_ret
 refine ⟨cur2, rfl, ?_, HX.out.2.1, HX.out.2.2⟩
 rw [HX.out.1, setRow_setRow]
set_option maxHeartbeats 1000000 in
theorem api_Node_25.calls (P0_ : Nat → Prop) (u0 : Value) (l0 : List (S27)) (a1 : Int) (a2 : Int) (r : List (S27)) (w0 : World) (w : World) (hB : Below w0.heap.size w0 w) (ho0 : Kd.R k27 27 w w0.heap.size (fun k_ => P0_ k_) u0 l0) (h : api_Node_25.f l0 a1 a2 = some r) :
  Calls Tryz.prog 25 #[u0, .int .i64 a1, .int .i64 a2] w fun e w' => ∃ v0_ : Value, e = .returned v0_ ∧ Kd.R k27 27 w' w0.heap.size (fun k_ => (P0_ k_ ∨ w.heap.size ≤ k_)) v0_ r ∧ Below w0.heap.size w0 w' ∧ Kept w w' (fun k_ => P0_ k_) := by
 unfold api_Node_25.f at h
 split at h
 case isFalse => cases h
 rename_i hh
 obtain ⟨hl, h0, h1, h2⟩ := hh
 obtain rfl := Option.some.inj h
 obtain ⟨i, rfl⟩ : ∃ i : Nat, a1 = (i : Int) := ⟨a1.toNat, by omega⟩
 subst h1
 have htn : ((i : Int) + 1).toNat = i + 1 := by omega
 rw [htn, Int.toNat_natCast]
 obtain ⟨inner, ho, hir⟩ := raw_R free_node ho0
 have h1i := reps_one (fr_one free_node) (by decide) hir
 rcases ho.2 with ⟨rfl, hn0⟩ | ⟨g, cap, cur, rfl, hbg, hg, hnc, hcm, hcs, hct⟩
 ·omega
 change cur.size = cap * 2 at hcs
 change cur.toList.take (l0.length * 2) = inner at hct
 try rw [Nat.mul_one] at hcs hct
 have hP : P0_ g := ho0.1 g rfl
 have hcm' : cap ≤ 9223372036854775807 := by unfold maxLen at hcm; omega
 have hk : (k27).sz = 2 := rfl
 have hRep : Reps (Fr k27) 2 (l0.take i ++ l0.drop (i + 1)) (inner.take (i * 2) ++ inner.drop ((i + 1) * 2)) := by
  have h := reps_append (reps_take hir i (by omega)) (reps_drop hir (i + 1))
  simp only [hk, Nat.mul_one] at h
  exact h
 have hRl : (l0.take i ++ l0.drop (i + 1)).length = l0.length - 1 := by simp only [List.length_append, List.length_take, List.length_drop]; omega
 refine (cut_N g l0.length cap i cur inner w hg (by omega) hnc hcm' hcs hct h1i).mono ?_
 rintro e w' ⟨cur2, rfl, rfl, hs2, ht2⟩
 have hgr : w.grownBy (w.drew.setRow g cur2) (some g) := grown_setRowD w g cur2
 refine ⟨_, rfl, R_raw (inner := inner.take (i * 2) ++ inner.drop ((i + 1) * 2)) ?_ hRep (fun k hk => .inl ?_), Below.grown hB hgr hB.size (fun k hk => by cases hk; exact hbg), Kept.of_grown hgr (Kept.refl _ _) (fun k hk => .inl (by cases hk; exact hP))⟩
 ·rw [hRl]
  exact ⟨by rw [hRep.1, hRl, hk], .inr ⟨g, cap, cur2, rfl, hbg, setRow_heap w.drew g cur cur2 27 (0, 0) hg, by omega, hcm, by first | exact hs2 | (rw [hk, Nat.mul_one]; exact hs2), by first | exact ht2 | (rw [hk, Nat.mul_one]; exact ht2)⟩⟩
 ·cases hk; exact hP
set_option maxRecDepth 100000 in
set_option maxHeartbeats 4000000 in
theorem api_Node_40.calls (A0 : Option Addr) (c0 : Nat) (l0 : List (S27)) (r : List (S27)) (w : World) (hr0 : Kd.C k27 w A0 l0.length l0) (hc0 : l0.length ≤ c0) (h : api_Node_40.f l0 = some r) :
  Calls Tryz.prog 40 #[.slice A0 l0.length c0] w fun e w' => ∃ v0_ : Value, e = .returned v0_ ∧ Kd.R k27 27 w' w.heap.size (fun _ => True) v0_ r ∧ Below w.heap.size w w' := by
 unfold api_Node_40.f at h
 split at h
 case isFalse => cases h
 rename_i hlen
 obtain rfl := Option.some.inj h
 have HR0 := Aside0.mk hr0
 have HL := Aside0.mk hlen
 have HB := Aside0.mk (Below.refl w.heap.size w)
 have q22 : ∀ (w : World) (a : Option Addr) (n c n' c' : Nat), (binOp .eql 22 (.slice a n c) (.slice none n' c')).run Tryz.prog w = .ok (.bool a.isNone) w := fun w a n c n' c' => Lib.run_eql_slice_nil w _ _ a n c n' c' Tryz.underlying22
 cases A0 with
 | none =>
  have h0 : l0 = [] := by
   cases l0 with
   | nil => rfl
   | cons x t =>
    obtain ⟨ad, e, -⟩ := hr0.2.2 (by simp)
    cases e
  subst h0
  clear hr0 hc0 h hlen HR0
  go_enter Tryz.func40, Tryz.ntmps40
  go_wp2
  go_ret
  exact ⟨_, rfl, Kd.R_nil _ _ _ _ _, HB.out⟩
 | some ad =>
  clear hr0 hc0 h hlen
  go_enter Tryz.func40, Tryz.ntmps40
  go_wp2_with (first
   | ((with_reducible refine gate_dst (N := 5) rfl ?_); refine Kd.R_lit k27 (w0 := w) w.heap.size 27 rfl (N := 5) ?hd (xs := ([] : List (S27))) (inner := []) (ok := fun _ => True) (okp := fun _ => True) ?hr ?hp (fun _ hk => hk) trivial HB.out (below_size HB.out) (by simp) ?_; (case hd => rfl); (case hr => first | (go_simp; done) | (go_simp; rfl)); (case hp => exact Reps.none _ _); intro v5 w5 ho hb hg hnew; have HO := Aside0.mk ho; clear HB; have HB := Aside0.mk hb; have HRC := Aside0.mk (Kd.C_below HR0.out HB.out); clear ho hb hg hnew)
   | ((with_reducible refine gate_builtin (b := .append) (xs := #[.tmp 5, .tmp 6]) rfl ?_); at_builtin; refine Kd.R_append_rows k27 (w0 := w) w.heap.size rfl (.tmp 5) (.tmp 6) 22 27 (.agg #[(.string ⟨#[]⟩), (.string ⟨#[]⟩)]) 32 rfl Tryz.underlying22 info27 rfl (by decide) (by omega) v5 [] l0 _ _ _ (fun _ => True) (fun _ => False) rfl rfl HO.out ?aR (fun _ _ h => h) (fun _ h => h.elim) (fun _ _ => trivial) HB.out (below_size HB.out) (by have := HL.out; simp only [List.length_nil]; omega) ?_; (case aR => exact HRC.out); intro v7 w7 ho hb hg hat; clear HO HB; have HO := Aside0.mk ho; have HB := Aside0.mk hb; clear ho hb hg hat))
  go_ret
  exact ⟨_, rfl, HO.out, HB.out⟩

set_option maxRecDepth 100000 in
set_option maxHeartbeats 4000000 in
/-- i < len(s), and there is room. -/
theorem shift_S (g n cap i : Nat) (va : Addr) (vc : Nat) (cur : Array Value) (inner c : List Value) (w : World) (hg : w.heap[g]? = some (.cells cur 9 (0, 0))) (hi : i < n) (hcap : n + 1 ≤ cap) (hc63 : cap ≤ 9223372036854775807)
  (hcur : cur.size = cap) (hik : cur.toList.take (n) = inner) (hcl : c.length = 1) (hva : va.block ≠ g) (hvc : ∀ j u, c[j]? = some u → w.cell? (va.add j) = some u) (h1i : ∀ u ∈ inner, u.oneCell' = true) (h1c : ∀ u ∈ c, u.oneCell' = true)
  (ca_ : Array Value) (tA : TypeId) (fA : Nat × Nat) (hsa : w.heap[va.block]? = some (.cells ca_ tA fA)) (hka : ca_.size ≠ 0) :
  Calls Tryz.prog 24 #[.slice (some ⟨g, 0, none⟩) n cap, .int .i64 i, .slice (some va) 1 vc] w fun e w' => ∃ cur2 : Array Value, e = .returned (.slice (some ⟨g, 0, none⟩) (n + 1) cap) ∧ w' = w.drew.setRow g cur2 ∧ cur2.size = cap ∧ cur2.toList.take (n + 1) = inner.take (i) ++ c ++ inner.drop (i) := by
 have hu := Tryz.underlying23
 have hsz : (Tryz.prog.info? 9).map (·.size) = some 1 := by kernel_rfl
 have hil : inner.length = n := by rw [← hik, List.length_take, Array.length_toList, hcur]; omega
 obtain ⟨hL1, hL2, hL3⟩ := ins_list cur.toList inner c (n) (i) (i + 1) (n + 1) 1 (by omega) (by omega) hik hil (by omega) hcl (by rw [Array.length_toList, hcur]; omega)
 have hdl : (inner.drop (i)).length = (n - i) := by have := @List.length_drop _ (i) inner; omega
 obtain ⟨cur1, hcur1⟩ : ∃ cur1 : Array Value, cur1 = (cur.toList.take (i + 1) ++ inner.drop (i) ++ cur.toList.drop (i + 1 + (inner.drop (i)).length)).toArray := ⟨_, rfl⟩
 have hs1 : cur1.size = cap := by rw [hcur1, List.size_toArray, hL1, Array.length_toList, hcur]
 have e1 : cur1.toList = cur.toList.take (i + 1) ++ inner.drop (i) ++ cur.toList.drop (i + 1 + (inner.drop (i)).length) := by rw [hcur1]
 obtain ⟨cur2, hcur2⟩ : ∃ cur2 : Array Value, cur2 = (cur1.toList.take (i) ++ c ++ cur1.toList.drop (i + c.length)).toArray := ⟨_, rfl⟩
 have e2 : cur2.toList = cur1.toList.take (i) ++ c ++ cur1.toList.drop (i + c.length) := by rw [hcur2]
 have hz1 : ¬ ((1 : Int) = 0) := by omega
 have hz2 : ¬ ((i : Int) = (n : Int)) := by omega
 have hadd : ∀ o j, Addr.add ⟨g, o, none⟩ j = ⟨g, o + j, none⟩ := fun o j => Addr.add_lit g o j
 have hgc : ∀ j u, inner[j]? = some u → w.cell? ⟨g, j, none⟩ = some u := fun j u hj => by
  have hjl : j < n := by have := (List.getElem?_eq_some_iff.1 hj).1; omega
  rw [← hik, List.getElem?_take_of_lt hjl, Array.getElem?_toList] at hj
  simp [World.cell?, hg, hj]
 have hov : ∀ o lb cb, (callFunc 44 #[.slice (some va) 1 vc, .slice (some ⟨g, o, none⟩) lb cb]).run Tryz.prog w = .ok (.value (.bool false)) w := fun o lb cb => by
  rw [run_callFunc_extern Tryz.func44 (by kernel_rfl) (by kernel_rfl) (by kernel_rfl) (e := Extern.SlicesOverlaps.overlaps #[23, 23] #[4]) (by kernel_rfl),
   run_overlaps_own w 23 4 9 hu 1 (by intro w; rfl) va ⟨g, o, none⟩ 1 vc lb cb hva ca_ cur tA 9 fA hsa hg hka]
  rfl
 have hcp1 : ∀ ty dc sc, (Builtin.copy_ #[23, 23] ty #[.slice (some ⟨g, i + 1, none⟩) (n - i) dc, .slice (some ⟨g, i, none⟩) (n + 1 - i) sc]).run Tryz.prog w.drew = .ok (goInt (Nat.min (n + 1 - i) (n - i))) (w.drew.setRow g cur1) := fun ty dc sc => by
  rw [hcur1]
  exact run_copy_rowS w.drew 23 23 ty 9 1 g (i + 1) (n - i) dc ⟨g, i, none⟩ (n + 1 - i) sc cur 9 (inner.drop (i)) hu hsz hg (by rw [hdl]; show _ = min _ _ * _; rw [Nat.min_def]; split <;> omega)
   (fun j v hj => by rw [hadd]; exact hgc _ _ (by rwa [List.getElem?_drop] at hj)) (by rw [hdl, hcur]; omega) (fun v hv => h1i v (List.mem_of_mem_drop hv))
 have hg1 : (w.drew.setRow g cur1).heap[g]? = some (.cells cur1 9 (0, 0)) := setRow_heap w.drew g cur cur1 9 (0, 0) hg
 have hcp2 : ∀ W, W.heap[g]? = some (.cells cur1 9 (0, 0)) → (∀ k, k ≠ g → W.heap[k]? = w.heap[k]?) → ∀ ty dc, (Builtin.copy_ #[23, 23] ty #[.slice (some ⟨g, i, none⟩) (n + 1 - i) dc, .slice (some va) 1 vc]).run Tryz.prog W = .ok (goInt (Nat.min 1 (n + 1 - i))) (W.setRow g cur2) := fun W hW1 hW2 ty dc => by
  rw [hcur2]
  exact run_copy_rowS W 23 23 ty 9 1 g (i) (n + 1 - i) dc va 1 vc cur1 9 c hu hsz hW1 (by rw [hcl]; show _ = min _ _ * _; rw [Nat.min_def]; split <;> omega)
   (fun j v hj => by
    have h := hvc j v hj
    have hb : (va.add j).block = va.block := by unfold Addr.add; split <;> rfl
    unfold World.cell? at h ⊢
    rw [hW2 _ (by rw [hb]; exact hva)]; exact h) (by rw [hcl, hs1]; omega) h1c
 obtain ⟨W1, hW1⟩ : ∃ W1, W1 = w.drew.setRow g cur1 := ⟨_, rfl⟩
 rw [← hW1] at hcp1 hg1
 have hk1 : ∀ k, k ≠ g → W1.heap[k]? = w.heap[k]? := fun k hk => by rw [hW1]; exact setRow_other w.drew g k cur1 hk
 have hw1 : IntKind.i64.wrap ((i : Int) + 1) = (i : Int) + 1 := by rw [IntKind.wrap_i64]; omega
 have hb1 : (0 : Int) ≤ (i : Int) + 1 := by omega
 have hin : i ≤ n := by omega
 have htn : ((i : Int) + 1).toNat = i + 1 := by omega
 have hb2 : ¬ (cap = i + 1) := by omega
 have hb3 : (i : Int) ≤ (n : Int) + 1 := by omega
 have hb5 : (i : Int) ≤ (n : Int) := by omega
 have hb4 : ¬ (cap = i) := by omega
 have hs2 : cur2.size = cap := by rw [← Array.length_toList, e2, e1, hL2, Array.length_toList, hcur]
 have ht2 : cur2.toList.take (n + 1) = inner.take (i) ++ c ++ inner.drop (i) := by rw [e2, e1]; exact hL3
 have HX := Aside0.mk (And.intro hW1 (And.intro hs2 ht2))
 clear hcur2 e2 hs2 ht2 hW1 hcur1 e1 hL1 hL2 hL3 hik hil hdl hcur hs1 hgc hsz hadd h1i h1c hvc
 go_enter Tryz.func24, Tryz.ntmps24
 go_wp2_with (simp only [hov])
 go_region_law (refine step_copy_runI rfl _ _ 23 23 rfl _ _ (by simp [Act.eval, Act.put]) (by simp [Act.eval, Act.put]) (hcp1 _ _ _) ?_)
 have hcp3 := hcp2 W1 hg1 hk1
 clear hcp1 hcp2
 go_wp2_with (first | (simp only [hcp3]) | (at_builtin; refine wpList_copy_runI rfl _ _ 23 23 rfl _ _ rfl rfl (hcp3 _ _) ?_))
 go_ret
 refine ⟨cur2, rfl, ?_, HX.out.2.1, HX.out.2.2⟩
 rw [HX.out.1, setRow_setRow]

set_option maxRecDepth 100000 in
set_option maxHeartbeats 4000000 in
/-- i < len(s), and there is no room. -/
theorem grow_S (g n cap i : Nat) (va : Addr) (vc : Nat) (cur : Array Value) (inner c : List Value) (w : World) (hg : w.heap[g]? = some (.cells cur 9 (0, 0))) (hi : i < n) (hcap : cap = n) (hn : n ≤ 1000000000)
  (hcur : cur.size = cap) (hik : cur.toList.take (n) = inner) (hcl : c.length = 1) (hvc : ∀ j u, c[j]? = some u → w.cell? (va.add j) = some u) (h1i : ∀ u ∈ inner, u.oneCell' = true) (h1c : ∀ u ∈ c, u.oneCell' = true) (hvl : va.block < w.heap.size) :
  Calls Tryz.prog 24 #[.slice (some ⟨g, 0, none⟩) n cap, .int .i64 i, .slice (some va) 1 vc] w fun e w' => ∃ (G : Nat) (cur2 : Array Value), e = .returned (.slice (some ⟨w.heap.size, 0, none⟩) (n + 1) G) ∧ w.grownBy w' none ∧ w'.heap[w.heap.size]? = some (.cells cur2 9 (0, 0)) ∧ n + 1 ≤ G ∧ G ≤ maxLen ∧ cur2.size = G ∧ cur2.toList.take (n + 1) = inner.take (i) ++ c ++ inner.drop (i) := by
 have hu := Tryz.underlying23
 have hsz : (Tryz.prog.info? 9).map (·.size) = some 1 := by kernel_rfl
 obtain ⟨i0, hi0, hz0, hzs, hzb⟩ : ∃ i0, Tryz.prog.info? 9 = some i0 ∧ i0.zero = some (.string ⟨#[]⟩) ∧ i0.size = 1 ∧ i0.bytes = 16 := by
  have h := info9
  obtain ⟨i0, h1, h2⟩ := Option.map_eq_some_iff.1 h
  injection h2 with h2 h3
  injection h3 with h3 h4
  exact ⟨i0, h1, h2, h3, h4⟩
 have hil : inner.length = n := by rw [← hik, List.length_take, Array.length_toList, hcur]; omega
 have hdl : (inner.drop (i)).length = (n - i) := by have := @List.length_drop _ (i) inner; omega
 have hgl : g < w.heap.size := (Array.getElem?_eq_some_iff.1 hg).1
 have hadd : ∀ (b o j : Nat), Addr.add ⟨b, o, none⟩ j = ⟨b, o + j, none⟩ := fun b o j => Addr.add_lit b o j
 have hgc : ∀ j u, inner[j]? = some u → w.cell? ⟨g, j, none⟩ = some u := fun j u hj => by
  have hjl : j < n := by have := (List.getElem?_eq_some_iff.1 hj).1; omega
  rw [← hik, List.getElem?_take_of_lt hjl, Array.getElem?_toList] at hj
  simp [World.cell?, hg, hj]
 have hold : (Builtin.firstCells i0.size i (.slice (some ⟨g, 0, none⟩) i cap)).run Tryz.prog w.drew = .ok (inner.take (i)).toArray w.drew := by
  rw [hzs]
  refine run_firstCells_some w.drew 1 i ⟨g, 0, none⟩ i cap (inner.take (i)) (by rw [List.length_take, hil]; omega) (fun j v hj => ?_)
  rw [hadd, Nat.zero_add]
  have hji : j < i := by have := (List.getElem?_eq_some_iff.1 hj).1; rw [List.length_take] at this; omega
  rw [List.getElem?_take_of_lt hji] at hj
  exact hgc _ _ hj
 obtain ⟨G, hG⟩ : ∃ G, G = grownCap w (n + 1) cap 9 := ⟨_, rfl⟩
 have hGn : n + 1 ≤ G := by rw [hG]; exact grownCap_ge w _ _ _
 have hG63 : G ≤ maxLen := by rw [hG]; exact grownCap_le_maxLen w (n + 1) cap 9 (by unfold maxLen; omega)
 obtain ⟨ROW, hROW⟩ : ∃ ROW : Array Value, ROW = (inner.take (i)).toArray ++ Builtin.zeroCells ((.string ⟨#[]⟩) : Value).cells (n + 1 - i) ++ Builtin.zeroCells ((.string ⟨#[]⟩) : Value).cells (G - (n + 1)) := ⟨_, rfl⟩
 obtain ⟨Zs, hZs⟩ : ∃ Zs : List Value, Zs = (Builtin.zeroCells ((.string ⟨#[]⟩) : Value).cells (n + 1 - i) ++ Builtin.zeroCells ((.string ⟨#[]⟩) : Value).cells (G - (n + 1))).toList := ⟨_, rfl⟩
 have hzl : Zs.length = (G - i) := by rw [hZs]; simp [Builtin.zeroCells, Value.cells]; omega
 have eR : ROW.toList = inner.take (i) ++ Zs := by rw [hROW, hZs]; simp
 have hRs : ROW.size = G := by rw [← Array.length_toList, eR, List.length_append, hzl, List.length_take, hil]; omega
 obtain ⟨hL1, hL2, hL3⟩ := grow_list Zs inner c (n) (i) (i + 1) (n + 1) 1 (by omega) (by omega) hil (by omega) hcl (by rw [hzl]; omega)
 obtain ⟨cur1, hcur1⟩ : ∃ cur1 : Array Value, cur1 = (ROW.toList.take (i) ++ c ++ ROW.toList.drop (i + c.length)).toArray := ⟨_, rfl⟩
 have e1 : cur1.toList = ROW.toList.take (i) ++ c ++ ROW.toList.drop (i + c.length) := by rw [hcur1]
 have hs1 : cur1.size = G := by rw [← Array.length_toList, e1, eR, hL1, ← eR, Array.length_toList, hRs]
 obtain ⟨cur2, hcur2⟩ : ∃ cur2 : Array Value, cur2 = (cur1.toList.take (i + 1) ++ inner.drop (i) ++ cur1.toList.drop (i + 1 + (inner.drop (i)).length)).toArray := ⟨_, rfl⟩
 have e2 : cur2.toList = cur1.toList.take (i + 1) ++ inner.drop (i) ++ cur1.toList.drop (i + 1 + (inner.drop (i)).length) := by rw [hcur2]
 have hs2 : cur2.size = G := by rw [← Array.length_toList, e2, e1, eR, hL2, ← eR, Array.length_toList, hRs]
 have ht2 : cur2.toList.take (n + 1) = inner.take (i) ++ c ++ inner.drop (i) := by rw [e2, e1, eR]; exact hL3
 -- the three events
 obtain ⟨W1, hW1⟩ : ∃ W1, W1 = w.drew.alloc (.cells ROW 9) := ⟨_, rfl⟩
 have hrz : ∀ ty, (Builtin.append_ #[23, 3] ty #[.slice (some ⟨g, 0, none⟩) i cap, .int .i64 ((n : Int) + 1 - (i : Int))]).run Tryz.prog w = .ok (.slice (some ⟨w.heap.size, 0, none⟩) (n + 1) G) W1 := fun ty => by
  have h := Lib.run_append_grow_zeros w 23 3 ty 9 i0 _ .i64 .i64 hu Tryz.underlying3 hi0 hz0 (some ⟨g, 0, none⟩) i cap (inner.take (i)) hold (n + 1 - i) (by omega) (by omega) (by omega) (by omega) (by rw [hzb]; omega) (by rw [hzb, show i + (n + 1 - i) = n + 1 by omega]; exact growslice_fits (by omega) (by omega))
  rw [show i + (n + 1 - i) = n + 1 by omega, ← hG, ← hROW, ← hW1] at h
  rw [show (n : Int) + 1 - (i : Int) = ((n + 1 - i : Nat) : Int) by omega]
  exact h
 have hg1 : W1.heap[w.heap.size]? = some (.cells ROW 9 (0, 0)) := by rw [hW1]; exact heap_alloc_new w.drew _
 have hk1 : ∀ k, k < w.heap.size → W1.heap[k]? = w.heap[k]? := fun k hk => by rw [hW1]; exact (below_alloc (below_drew (Below.refl w.heap.size w)) _).block k hk
 have hW1g : w.grownBy W1 none := by rw [hW1]; exact ⟨rfl, rfl, rfl, by simp [World.alloc], fun k hk _ => (below_alloc (below_drew (Below.refl w.heap.size w)) _).block k hk⟩
 obtain ⟨W2, hW2⟩ : ∃ W2, W2 = W1.setRow w.heap.size cur1 := ⟨_, rfl⟩
 have hcpA : ∀ ty dc, (Builtin.copy_ #[23, 23] ty #[.slice (some ⟨w.heap.size, i, none⟩) (n + 1 - i) dc, .slice (some va) 1 vc]).run Tryz.prog W1 = .ok (goInt (Nat.min 1 (n + 1 - i))) W2 := fun ty dc => by
  rw [hW2, hcur1]
  exact run_copy_rowS W1 23 23 ty 9 1 w.heap.size (i) (n + 1 - i) dc va 1 vc ROW 9 c hu hsz hg1 (by rw [hcl]; show _ = min _ _ * _; rw [Nat.min_def]; split <;> omega)
   (fun j v hj => by
    have h := hvc j v hj
    have hb : (va.add j).block = va.block := by unfold Addr.add; split <;> rfl
    unfold World.cell? at h ⊢
    rw [hk1 _ (by rw [hb]; exact hvl)]; exact h) (by rw [hcl, hRs]; omega) h1c
 have hg2 : W2.heap[w.heap.size]? = some (.cells cur1 9 (0, 0)) := by rw [hW2]; exact setRow_heap W1 _ ROW cur1 9 (0, 0) hg1
 have hk2 : ∀ k, k < w.heap.size → W2.heap[k]? = w.heap[k]? := fun k hk => by rw [hW2, setRow_other W1 _ k cur1 (by omega)]; exact hk1 k hk
 obtain ⟨W3, hW3⟩ : ∃ W3, W3 = W2.drew.setRow w.heap.size cur2 := ⟨_, rfl⟩
 have hcpB : ∀ ty dc sc, (Builtin.copy_ #[23, 23] ty #[.slice (some ⟨w.heap.size, i + 1, none⟩) (n - i) dc, .slice (some ⟨g, i, none⟩) (n - i) sc]).run Tryz.prog W2.drew = .ok (goInt (Nat.min (n - i) (n - i))) W3 := fun ty dc sc => by
  rw [hW3, hcur2]
  exact run_copy_rowS W2.drew 23 23 ty 9 1 w.heap.size (i + 1) (n - i) dc ⟨g, i, none⟩ (n - i) sc cur1 9 (inner.drop (i)) hu hsz hg2 (by rw [hdl]; show _ = min (n - i) (n - i) * _; omega)
   (fun j v hj => by
    rw [hadd]
    have h := hgc _ v (by rwa [List.getElem?_drop] at hj)
    unfold World.cell? at h ⊢
    show (match W2.heap[g]? with | some (.cells c _ _) => _ | _ => _) = _
    rw [hk2 g hgl]; exact h) (by rw [hdl, hs1]; omega) (fun v hv => h1i v (List.mem_of_mem_drop hv))
 have hg3 : W3.heap[w.heap.size]? = some (.cells cur2 9 (0, 0)) := by rw [hW3]; exact setRow_heap W2.drew _ cur1 cur2 9 (0, 0) hg2
 have hgr : w.grownBy W3 none := by
  rw [hW3]
  refine ⟨?_, ?_, ?_, ?_, fun k hk _ => ?_⟩
  ·rw [setRow_os, hW2]; exact hW1g.os
  ·rw [setRow_tape, hW2]; exact hW1g.tape
  ·rw [setRow_output, hW2]; exact hW1g.output
  ·rw [setRow_size, hW2]; show _ ≤ (W1.setRow _ _).heap.size; rw [setRow_size]; exact hW1g.size
  ·rw [setRow_other W2.drew _ k cur2 (by omega)]; exact hk2 k hk
 have hz1 : ¬ ((1 : Int) = 0) := by omega
 have hz2 : ¬ ((i : Int) = (n : Int)) := by omega
 have hz3 : (cap : Int) < (n : Int) + 1 := by omega
 have hw1 : IntKind.i64.wrap ((i : Int) + 1) = (i : Int) + 1 := by rw [IntKind.wrap_i64]; omega
 have hb1 : (0 : Int) ≤ (i : Int) + 1 := by omega
 have hin : i ≤ n := by omega
 have htn : ((i : Int) + 1).toNat = i + 1 := by omega
 have hb3 : (i : Int) ≤ (n : Int) := by omega
 have hb4 : ¬ (cap = i) := by omega
 have hb6 : (i : Int) ≤ (cap : Int) := by omega
 have hGi : ¬ (G = i) := by omega
 have hGim : ¬ (G = i + 1) := by omega
 have hG63' : G ≤ 9223372036854775807 := by unfold maxLen at hG63; omega
 have hc63 : cap ≤ 9223372036854775807 := by omega
 have HX := Aside0.mk (And.intro hgr (And.intro hg3 (And.intro hGn (And.intro hG63 (And.intro hs2 ht2)))))
 clear hgr hg3 hs2 ht2 hW3 hW2 hW1 hg1 hg2 hk1 hk2 hW1g hcur2 hcur1 e1 e2 eR hL1 hL2 hL3 hs1 hRs hzl hZs hROW hG hold hgc hadd hgl hdl hil hik hcur hvc h1i h1c hG63 hi0 hz0 hzs hzb hcap
 go_enter Tryz.func24, Tryz.ntmps24
 go_wp2_with (first | (simp only [hrz]) | (simp only [hcpA]) | (at_builtin; refine Lib.wpList_append_run _ rfl _ _ _ _ rfl _ _ rfl rfl _ _ (hrz _) ?_) | (at_builtin; refine wpList_copy_runI rfl _ _ 23 23 rfl _ _ rfl rfl (hcpA _ _) ?_))
 go_region_law (refine step_copy_runI rfl _ _ 23 23 rfl _ _ (by simp [Act.eval, Act.put]) (by simp [Act.eval, Act.put]) (hcpB _ _ _) ?_)
 go_wp2
 go_ret
 exact ⟨G, cur2, rfl, HX.out⟩

set_option maxHeartbeats 1000000 in
theorem slices_Insert_string_string.tail (P0_ : Nat → Prop) (u0 : Value) (l0 : List (ByteArray)) (va : Option Addr) (vc : Nat) (x : ByteArray) (w0 w : World) (hB : Below w0.heap.size w0 w) (ho0 : Kd.R Kd.string 9 w w0.heap.size (fun k_ => P0_ k_) u0 l0) (hr : Kd.C Kd.string w va 1 [x]) (hl : l0.length ≤ 1000000000) :
  Calls Tryz.prog 24 #[u0, .int .i64 (l0.length : Nat), .slice va 1 vc] w fun e w' => ∃ v0_ : Value, e = .returned v0_ ∧ Kd.R Kd.string 9 w' w0.heap.size (fun k_ => (P0_ k_ ∨ w.heap.size ≤ k_)) v0_ (l0 ++ [x]) ∧ Below w0.heap.size w0 w' ∧ Kept w w' (fun k_ => P0_ k_) := by
 have HO := Aside0.mk (Kd.R_mono (ok' := fun k_ => (P0_ k_ ∨ w.heap.size ≤ k_)) ho0 (fun _ h => .inl h))
 have HK := Aside0.mk ho0.1
 have HR := Aside0.mk hr
 have HB := Aside0.mk hB
 have hS : w0.heap.size ≤ w.heap.size := hB.size
 have hz1 : ¬ ((1 : Int) = 0) := by omega
 obtain ⟨inner, ho, -⟩ := raw_R free_string ho0
 have hlt := ho.lt
 rcases ho.2 with ⟨rfl, hn0⟩ | ⟨g, cap, cur, rfl, hbg, hg, hnc, hcm, hcs, hct⟩
 ·obtain rfl : l0 = [] := List.eq_nil_of_length_eq_zero hn0
  clear hB ho0 hr ho hn0 hlt
  go_enter Tryz.func24, Tryz.ntmps24
  go_wp2_with (((with_reducible refine gate_builtin (b := .append) (xs := #[.tmp 23, .tmp 24]) rfl ?_); at_builtin; refine Kd.R_append_rows Kd.string (w0 := w0) w0.heap.size rfl (.tmp 23) (.tmp 24) 23 9 (.string ⟨#[]⟩) 16 rfl Tryz.underlying23 info9 rfl (by decide) (by omega) _ [] [x] _ _ _ (fun k_ => (P0_ k_ ∨ w.heap.size ≤ k_)) (fun _ => False) rfl rfl HO.out ?aR (fun _ _ h => h) (fun _ h => h.elim) (fun _ h => .inr h) HB.out hS (by simp) ?_; (case aR => exact HR.out); intro v7 w7 ho hb hg hat; clear HO HB; have HO := Aside0.mk ho; have HB := Aside0.mk hb; have HG := Aside0.mk hg; clear ho hb hg hat))
  go_ret
  exact ⟨_, rfl, HO.out, HB.out, Kept.of_grown HG.out (Kept.refl _ _) (fun k hk => .inl (HK.out k hk))⟩
 ·obtain ⟨n, hn⟩ : ∃ n, n = l0.length := ⟨_, rfl⟩
  rw [← hn] at hnc hl
  have hcm' : cap ≤ 9223372036854775807 := by unfold maxLen at hcm; omega
  rw [← hn]
  have HN := Aside0.mk hn
  have HO' := Aside0.mk (show Kd.R Kd.string 9 w w0.heap.size (fun k_ => (P0_ k_ ∨ w.heap.size ≤ k_)) (.slice (some ⟨g, 0, none⟩) n cap) l0 from by rw [hn]; exact HO.out)
  have HK' := Aside0.mk (show P0_ g from HK.out g rfl)
  clear HO HK
  have HO := HO'
  have HK := HK'
  clear HO' HK' hB ho0 hr ho hlt hg hcs hct hcm hn
  go_enter Tryz.func24, Tryz.ntmps24
  go_wp2_with (((with_reducible refine gate_builtin (b := .append) (xs := #[.tmp 23, .tmp 24]) rfl ?_); at_builtin; refine Kd.R_append_rows Kd.string (w0 := w0) w0.heap.size rfl (.tmp 23) (.tmp 24) 23 9 (.string ⟨#[]⟩) 16 rfl Tryz.underlying23 info9 rfl (by decide) (by omega) _ l0 [x] _ _ _ (fun k_ => (P0_ k_ ∨ w.heap.size ≤ k_)) (fun _ => False) rfl rfl HO.out ?aR (fun _ _ h => h) (fun _ h => h.elim) (fun _ h => .inr h) HB.out hS (by rw [← HN.out]; omega) ?_; (case aR => exact HR.out); intro v7 w7 ho hb hg hat; clear HO HB; have HO := Aside0.mk ho; have HB := Aside0.mk hb; have HG := Aside0.mk hg; clear ho hb hg hat))
  all_goals
   go_ret
   exact ⟨_, rfl, HO.out, HB.out, Kept.of_grown HG.out (Kept.refl _ _) (fun k hk => .inl (by cases hk; exact HK.out))⟩
set_option maxHeartbeats 1000000 in
theorem slices_Insert_string_string.calls (P0_ : Nat → Prop) (u0 : Value) (l0 : List (ByteArray)) (a1 : Int) (A2 : Option Addr) (c2 : Nat) (l2 : List (ByteArray)) (r : List (ByteArray)) (w0 : World) (w : World) (hB : Below w0.heap.size w0 w) (ho0 : Kd.R Kd.string 9 w w0.heap.size (fun k_ => P0_ k_) u0 l0) (hr2 : ∀ W_, Kept w W_ (fun k_ => P0_ k_) → Kd.C Kd.string W_ A2 l2.length l2) (hc2 : l2.length ≤ c2) (h : slices_Insert_string_string.f l0 a1 l2 = some r) :
  Calls Tryz.prog 24 #[u0, .int .i64 a1, .slice A2 l2.length c2] w fun e w' => ∃ v0_ : Value, e = .returned v0_ ∧ Kd.R Kd.string 9 w' w0.heap.size (fun k_ => (P0_ k_ ∨ w.heap.size ≤ k_)) v0_ r ∧ Below w0.heap.size w0 w' ∧ Kept w w' (fun k_ => P0_ k_) := by
 unfold slices_Insert_string_string.f at h
 split at h
 case isFalse => cases h
 rename_i hh
 obtain ⟨hl, h0, h1, h2⟩ := hh
 obtain rfl := Option.some.inj h
 obtain ⟨i, rfl⟩ : ∃ i : Nat, a1 = (i : Int) := ⟨a1.toNat, by omega⟩
 obtain ⟨x, rfl⟩ := List.length_eq_one_iff.1 h2
 rw [Int.toNat_natCast]
 have hr := hr2 w (Kept.refl _ _)
 by_cases hi : i < l0.length
 case neg =>
  obtain rfl : i = l0.length := by omega
  rw [List.take_length, List.drop_length, List.append_nil]
  exact slices_Insert_string_string.tail P0_ u0 l0 A2 c2 x w0 w hB ho0 hr hl
 obtain ⟨va, c, rfl, hcl, hcr, hvc⟩ := raw_C1 free_string hr
 change c.length = 1 at hcl
 obtain ⟨inner, ho, hir⟩ := raw_R free_string ho0
 have h1i := reps_one (fr_one free_string) (by decide) hir
 have h1c := reps_one (fr_one free_string) (by decide) hcr
 rcases ho.2 with ⟨rfl, hn0⟩ | ⟨g, cap, cur, rfl, hbg, hg, hnc, hcm, hcs, hct⟩
 ·omega
 change cur.size = cap * 1 at hcs
 change cur.toList.take (l0.length * 1) = inner at hct
 try rw [Nat.mul_one] at hcs hct
 have hP : P0_ g := ho0.1 g rfl
 have hgl : g < w.heap.size := (Array.getElem?_eq_some_iff.1 hg).1
 have hcm' : cap ≤ 9223372036854775807 := by unfold maxLen at hcm; omega
 have hk : (Kd.string).sz = 1 := rfl
 have hRep : Reps (Fr Kd.string) 1 (l0.take i ++ [x] ++ l0.drop i) (inner.take (i) ++ c ++ inner.drop (i)) := by
  have h := reps_append (reps_append (reps_take hir i (by omega)) hcr) (reps_drop hir i)
  simp only [hk, Nat.mul_one] at h
  exact h
 have hRl : (l0.take i ++ [x] ++ l0.drop i).length = l0.length + 1 := by simp only [List.length_append, List.length_take, List.length_drop, List.length_cons, List.length_nil]; omega
 have hcz : 0 < c.length := by omega
 have hcell := hvc 0 c[0] (List.getElem?_eq_getElem hcz)
 obtain ⟨ca, tA, fA, hsa, hka⟩ : ∃ (ca : Array Value) (tA : TypeId) (fA : Nat × Nat), w.heap[va.block]? = some (.cells ca tA fA) ∧ ca.size ≠ 0 := by
  have hb : (va.add 0).block = va.block := by unfold Addr.add; split <;> rfl
  unfold World.cell? at hcell
  rw [hb] at hcell
  split at hcell
  case h_2 => cases hcell
  rename_i cs t f hh
  refine ⟨cs, t, f, hh, fun h0 => ?_⟩
  rw [Array.eq_empty_of_size_eq_zero h0] at hcell
  revert hcell
  cases (va.add 0).spot <;> simp
 by_cases hroom : l0.length + 1 ≤ cap
 ·have hva : va.block ≠ g := by
   intro e
   have hkk : Kept w (w.setRow g #[]) (fun k_ => P0_ k_) := Kept.of_grown (grown_setRow w g #[]) (Kept.refl _ _) (fun k hk => .inl (by cases hk; exact hP))
   obtain ⟨ad, c', e', hcl', -, hvc'⟩ := raw_C1 free_string (hr2 _ hkk)
   cases e'
   have hz : 0 < c'.length := by rw [hcl']; decide
   have := hvc' 0 c'[0] (List.getElem?_eq_getElem hz)
   have hb : (va.add 0).block = va.block := by unfold Addr.add; split <;> rfl
   unfold World.cell? at this
   rw [hb, e, setRow_heap w g cur #[] 9 (0, 0) hg] at this
   revert this
   cases (va.add 0).spot <;> simp
  refine (shift_S g l0.length cap i va c2 cur inner c w hg hi hroom hcm' hcs hct hcl hva hvc h1i h1c ca tA fA hsa hka).mono ?_
  rintro e w' ⟨cur2, rfl, rfl, hs2, ht2⟩
  have hgr : w.grownBy (w.drew.setRow g cur2) (some g) := grown_setRowD w g cur2
  refine ⟨_, rfl, R_raw (inner := inner.take (i) ++ c ++ inner.drop (i)) ?_ hRep (fun k hk => .inl ?_), Below.grown hB hgr hB.size (fun k hk => by cases hk; exact hbg), Kept.of_grown hgr (Kept.refl _ _) (fun k hk => .inl (by cases hk; exact hP))⟩
  ·rw [hRl]
   exact ⟨by rw [hRep.1, hRl, hk], .inr ⟨g, cap, cur2, rfl, hbg, setRow_heap w.drew g cur cur2 9 (0, 0) hg, hroom, hcm, by first | exact hs2 | (rw [hk, Nat.mul_one]; exact hs2), by first | exact ht2 | (rw [hk, Nat.mul_one]; exact ht2)⟩⟩
  ·cases hk; exact hP
 ·have hvl : va.block < w.heap.size := (Array.getElem?_eq_some_iff.1 hsa).1
  refine (grow_S g l0.length cap i va c2 cur inner c w hg hi (by omega) hl hcs hct hcl hvc h1i h1c hvl).mono ?_
  rintro e w' ⟨G, cur2, rfl, hgr, hg2, hG1, hG2, hs2, ht2⟩
  refine ⟨_, rfl, R_raw (inner := inner.take (i) ++ c ++ inner.drop (i)) ?_ hRep (fun k hk => .inr ?_), Below.grown hB hgr hB.size (fun k hk => by cases hk), Kept.of_grown hgr (Kept.refl _ _) (fun k hk => by cases hk)⟩
  ·rw [hRl]
   exact ⟨by rw [hRep.1, hRl, hk], .inr ⟨w.heap.size, G, cur2, rfl, hB.size, hg2, hG1, hG2, by first | exact hs2 | (rw [hk, Nat.mul_one]; exact hs2), by first | exact ht2 | (rw [hk, Nat.mul_one]; exact ht2)⟩⟩
  ·cases hk; exact Nat.le_refl _
set_option maxRecDepth 100000 in
set_option maxHeartbeats 4000000 in
/-- slices.Delete of one. -/
theorem cut_S (g n cap i : Nat) (cur : Array Value) (inner : List Value) (w : World) (hg : w.heap[g]? = some (.cells cur 9 (0, 0))) (hi : i < n) (hcap : n ≤ cap) (hc63 : cap ≤ 9223372036854775807)
  (hcur : cur.size = cap) (hik : cur.toList.take (n) = inner) (h1i : ∀ u ∈ inner, u.oneCell' = true) :
  Calls Tryz.prog 26 #[.slice (some ⟨g, 0, none⟩) n cap, .int .i64 i, .int .i64 ((i : Int) + 1)] w fun e w' => ∃ cur2 : Array Value, e = .returned (.slice (some ⟨g, 0, none⟩) (n - 1) cap) ∧ w' = w.drew.setRow g cur2 ∧ cur2.size = cap ∧ cur2.toList.take (n - 1) = inner.take (i) ++ inner.drop (i + 1) := by
 have hu := Tryz.underlying23
 have hsz : (Tryz.prog.info? 9).map (·.size) = some 1 := by kernel_rfl
 have hzv : ∀ w, (zeroValue 9).run Tryz.prog w = .ok (.string ⟨#[]⟩) w := by intro w; kernel_rfl
 have hil : inner.length = n := by rw [← hik, List.length_take, Array.length_toList, hcur]; omega
 obtain ⟨z, hzz, hzl, h1z⟩ : ∃ z : List Value, (Builtin.zeroCells ((.string ⟨#[]⟩) : Value).cells 1).toList = z ∧ z.length = 1 ∧ ∀ u ∈ z, u.oneCell' = true := ⟨[.string ⟨#[]⟩], by kernel_rfl, rfl, by simp [Value.oneCell']⟩
 obtain ⟨hL1, hL2, hL3⟩ := dele_list cur.toList inner z (n) (i) (i + 1) (n - 1) 1 (by omega) (by omega) hik hil (by omega) hzl (by rw [Array.length_toList, hcur]; omega)
 have hdl : (inner.drop (i + 1)).length = (n - (i + 1)) := by have := @List.length_drop _ (i + 1) inner; omega
 obtain ⟨cur1, hcur1⟩ : ∃ cur1 : Array Value, cur1 = (cur.toList.take (i) ++ inner.drop (i + 1) ++ cur.toList.drop (i + (inner.drop (i + 1)).length)).toArray := ⟨_, rfl⟩
 have e1 : cur1.toList = cur.toList.take (i) ++ inner.drop (i + 1) ++ cur.toList.drop (i + (inner.drop (i + 1)).length) := by rw [hcur1]
 have hs1 : cur1.size = cap := by rw [← Array.length_toList, e1, hL1, Array.length_toList, hcur]
 obtain ⟨cur2, hcur2⟩ : ∃ cur2 : Array Value, cur2 = (cur1.toList.take (n - 1) ++ z ++ cur1.toList.drop (n - 1 + z.length)).toArray := ⟨_, rfl⟩
 have e2 : cur2.toList = cur1.toList.take (n - 1) ++ z ++ cur1.toList.drop (n - 1 + z.length) := by rw [hcur2]
 have hgc : ∀ j u, inner[j]? = some u → w.cell? ⟨g, j, none⟩ = some u := fun j u hj => by
  have hjl : j < n := by have := (List.getElem?_eq_some_iff.1 hj).1; omega
  rw [← hik, List.getElem?_take_of_lt hjl, Array.getElem?_toList] at hj
  simp [World.cell?, hg, hj]
 obtain ⟨A, hA, hsrc⟩ : ∃ A : Addr, (if cap = i + 1 then some (⟨g, 0, none⟩ : Addr) else some ⟨g, i + 1, none⟩) = some A ∧ Aside0 (∀ j u, (inner.drop (i + 1))[j]? = some u → w.drew.cell? (A.add j) = some u) := by
  by_cases hc : cap = i + 1
  ·refine ⟨⟨g, 0, none⟩, by rw [if_pos hc], ⟨fun j u hj => ?_⟩⟩
   have := (List.getElem?_eq_some_iff.1 hj).1
   omega
  ·refine ⟨⟨g, i + 1, none⟩, by rw [if_neg hc], ⟨fun j u hj => ?_⟩⟩
   rw [Addr.add_lit]
   exact hgc _ _ (by rwa [List.getElem?_drop] at hj)
 obtain ⟨W1, hW1⟩ : ∃ W1, W1 = w.drew.setRow g cur1 := ⟨_, rfl⟩
 have hap : ∀ ty c, (Builtin.append_ #[23, 23] ty #[.slice (some ⟨g, 0, none⟩) i cap, .slice (some A) (n - (i + 1)) c]).run Tryz.prog w.drew = .ok (.slice (some ⟨g, 0, none⟩) (i + (n - (i + 1))) cap) W1 := fun ty c => by
  rw [hW1, hcur1]
  have h := run_append_rowS (P := Tryz.prog) w.drew 23 ty 9 1 hu hsz g i cap A (n - (i + 1)) c cur 9 (inner.drop (i + 1)) hg (by rw [hdl]; try omega) hsrc.out (fun v hv => h1i v (List.mem_of_mem_drop hv)) (by omega) (by rw [hdl, hcur]; omega)
  first | exact h | simpa only [Nat.mul_one] using h
 have hg1 : W1.heap[g]? = some (.cells cur1 9 (0, 0)) := by rw [hW1]; exact setRow_heap w.drew g cur cur1 9 (0, 0) hg
 have hcl : ∀ ty c, (Builtin.clear_ #[23] ty #[.slice (some ⟨g, n - 1, none⟩) 1 c]).run Tryz.prog W1 = .ok (.tuple #[]) (W1.setRow g cur2) := fun ty c => by
  rw [hcur2]
  exact run_clear_rowS W1 23 9 ty (.string ⟨#[]⟩) hu hzv g (n - 1) 1 c cur1 9 z hzz hg1 (by omega) (by rw [hzl, hs1]; omega) h1z
 have hs2 : cur2.size = cap := by rw [← Array.length_toList, e2, e1, hL2, Array.length_toList, hcur]
 have ht2 : cur2.toList.take (n - 1) = inner.take (i) ++ inner.drop (i + 1) := by rw [e2, e1]; exact hL3
 have HX := Aside0.mk (And.intro hW1 (And.intro hs2 ht2))
 have hz2 : ¬ ((i : Int) = (i : Int) + 1) := by omega
 have hb1 : (i : Int) ≤ (n : Int) := by omega
 have hb2 : (i : Int) + 1 ≤ (n : Int) := by omega
 have hb3 : (i : Int) + 1 ≤ (cap : Int) := by omega
 have hb5 : (i : Int) ≤ (cap : Int) := by omega
 have hb4 : (0 : Int) ≤ (i : Int) + 1 := by omega
 have htn : ((i : Int) + 1).toNat = i + 1 := by omega
 have hnn : i + (n - (i + 1)) = n - 1 := by omega
 have hn1 : n - (n - 1) = 1 := by omega
 have hcn : ¬ (cap = n - 1) := by omega
 rw [hnn] at hap
 clear hcur2 e2 hs2 ht2 hW1 hcur1 e1 hL1 hL2 hL3 hik hil hdl hcur hs1 hgc hsz h1i hzv hzz hzl h1z hsrc hg1 hnn
 go_enter Tryz.func26, Tryz.ntmps26
 go_wp2_with fail
 go_region_law ((refine step_append_runI (v' := .slice (some ⟨g, 0, none⟩) (n - 1) cap) (w' := W1) rfl (.tmp 22) (.tmp 25) 23 23 rfl (.slice (some ⟨g, 0, none⟩) i cap) (.slice (some A) (n - (i + 1)) (cap - (i + 1))) ?h1 ?h2 ?h3 ?_); (case h3 => exact hap _ _); (case h1 => (simp [Act.eval, Act.put])); (case h2 => (simp [Act.eval, Act.put])))
 go_wp2_with (first | (simp only [hcl]) | (at_builtin; refine wpList_clear_runI rfl _ 23 rfl _ rfl (hcl _ _) ?_))
 go_ret
 refine ⟨cur2, rfl, ?_, HX.out.2.1, HX.out.2.2⟩
 rw [HX.out.1, setRow_setRow]
set_option maxHeartbeats 1000000 in
theorem slices_Delete_string_string.calls (P0_ : Nat → Prop) (u0 : Value) (l0 : List (ByteArray)) (a1 : Int) (a2 : Int) (r : List (ByteArray)) (w0 : World) (w : World) (hB : Below w0.heap.size w0 w) (ho0 : Kd.R Kd.string 9 w w0.heap.size (fun k_ => P0_ k_) u0 l0) (h : slices_Delete_string_string.f l0 a1 a2 = some r) :
  Calls Tryz.prog 26 #[u0, .int .i64 a1, .int .i64 a2] w fun e w' => ∃ v0_ : Value, e = .returned v0_ ∧ Kd.R Kd.string 9 w' w0.heap.size (fun k_ => (P0_ k_ ∨ w.heap.size ≤ k_)) v0_ r ∧ Below w0.heap.size w0 w' ∧ Kept w w' (fun k_ => P0_ k_) := by
 unfold slices_Delete_string_string.f at h
 split at h
 case isFalse => cases h
 rename_i hh
 obtain ⟨hl, h0, h1, h2⟩ := hh
 obtain rfl := Option.some.inj h
 obtain ⟨i, rfl⟩ : ∃ i : Nat, a1 = (i : Int) := ⟨a1.toNat, by omega⟩
 subst h1
 have htn : ((i : Int) + 1).toNat = i + 1 := by omega
 rw [htn, Int.toNat_natCast]
 obtain ⟨inner, ho, hir⟩ := raw_R free_string ho0
 have h1i := reps_one (fr_one free_string) (by decide) hir
 rcases ho.2 with ⟨rfl, hn0⟩ | ⟨g, cap, cur, rfl, hbg, hg, hnc, hcm, hcs, hct⟩
 ·omega
 change cur.size = cap * 1 at hcs
 change cur.toList.take (l0.length * 1) = inner at hct
 try rw [Nat.mul_one] at hcs hct
 have hP : P0_ g := ho0.1 g rfl
 have hcm' : cap ≤ 9223372036854775807 := by unfold maxLen at hcm; omega
 have hk : (Kd.string).sz = 1 := rfl
 have hRep : Reps (Fr Kd.string) 1 (l0.take i ++ l0.drop (i + 1)) (inner.take (i) ++ inner.drop (i + 1)) := by
  have h := reps_append (reps_take hir i (by omega)) (reps_drop hir (i + 1))
  simp only [hk, Nat.mul_one] at h
  exact h
 have hRl : (l0.take i ++ l0.drop (i + 1)).length = l0.length - 1 := by simp only [List.length_append, List.length_take, List.length_drop]; omega
 refine (cut_S g l0.length cap i cur inner w hg (by omega) hnc hcm' hcs hct h1i).mono ?_
 rintro e w' ⟨cur2, rfl, rfl, hs2, ht2⟩
 have hgr : w.grownBy (w.drew.setRow g cur2) (some g) := grown_setRowD w g cur2
 refine ⟨_, rfl, R_raw (inner := inner.take (i) ++ inner.drop (i + 1)) ?_ hRep (fun k hk => .inl ?_), Below.grown hB hgr hB.size (fun k hk => by cases hk; exact hbg), Kept.of_grown hgr (Kept.refl _ _) (fun k hk => .inl (by cases hk; exact hP))⟩
 ·rw [hRl]
  exact ⟨by rw [hRep.1, hRl, hk], .inr ⟨g, cap, cur2, rfl, hbg, setRow_heap w.drew g cur cur2 9 (0, 0) hg, by omega, hcm, by first | exact hs2 | (rw [hk, Nat.mul_one]; exact hs2), by first | exact ht2 | (rw [hk, Nat.mul_one]; exact ht2)⟩⟩
 ·cases hk; exact hP
set_option maxRecDepth 100000 in
set_option maxHeartbeats 4000000 in
theorem slices_Clone_string_string.calls (A0 : Option Addr) (c0 : Nat) (l0 : List (ByteArray)) (r : List (ByteArray)) (w : World) (hr0 : Kd.C Kd.string w A0 l0.length l0) (hc0 : l0.length ≤ c0) (h : slices_Clone_string_string.f l0 = some r) :
  Calls Tryz.prog 41 #[.slice A0 l0.length c0] w fun e w' => ∃ v0_ : Value, e = .returned v0_ ∧ Kd.R Kd.string 9 w' w.heap.size (fun _ => True) v0_ r ∧ Below w.heap.size w w' := by
 unfold slices_Clone_string_string.f at h
 split at h
 case isFalse => cases h
 rename_i hlen
 obtain rfl := Option.some.inj h
 have HR0 := Aside0.mk hr0
 have HL := Aside0.mk hlen
 have HB := Aside0.mk (Below.refl w.heap.size w)
 have q22 : ∀ (w : World) (a : Option Addr) (n c n' c' : Nat), (binOp .eql 23 (.slice a n c) (.slice none n' c')).run Tryz.prog w = .ok (.bool a.isNone) w := fun w a n c n' c' => Lib.run_eql_slice_nil w _ _ a n c n' c' Tryz.underlying23
 cases A0 with
 | none =>
  have h0 : l0 = [] := by
   cases l0 with
   | nil => rfl
   | cons x t =>
    obtain ⟨ad, e, -⟩ := hr0.2.2 (by simp)
    cases e
  subst h0
  clear hr0 hc0 h hlen HR0
  go_enter Tryz.func41, Tryz.ntmps41
  go_wp2
  go_ret
  exact ⟨_, rfl, Kd.R_nil _ _ _ _ _, HB.out⟩
 | some ad =>
  clear hr0 hc0 h hlen
  go_enter Tryz.func41, Tryz.ntmps41
  go_wp2_with (first
   | ((with_reducible refine gate_dst (N := 5) rfl ?_); refine Kd.R_lit Kd.string (w0 := w) w.heap.size 9 rfl (N := 5) ?hd (xs := ([] : List (ByteArray))) (inner := []) (ok := fun _ => True) (okp := fun _ => True) ?hr ?hp (fun _ hk => hk) trivial HB.out (below_size HB.out) (by simp) ?_; (case hd => rfl); (case hr => first | (go_simp; done) | (go_simp; rfl)); (case hp => exact Reps.none _ _); intro v5 w5 ho hb hg hnew; have HO := Aside0.mk ho; clear HB; have HB := Aside0.mk hb; have HRC := Aside0.mk (Kd.C_below HR0.out HB.out); clear ho hb hg hnew)
   | ((with_reducible refine gate_builtin (b := .append) (xs := #[.tmp 5, .tmp 6]) rfl ?_); at_builtin; refine Kd.R_append_rows Kd.string (w0 := w) w.heap.size rfl (.tmp 5) (.tmp 6) 23 9 (.string ⟨#[]⟩) 16 rfl Tryz.underlying23 info9 rfl (by decide) (by omega) v5 [] l0 _ _ _ (fun _ => True) (fun _ => False) rfl rfl HO.out ?aR (fun _ _ h => h) (fun _ h => h.elim) (fun _ _ => trivial) HB.out (below_size HB.out) (by have := HL.out; simp only [List.length_nil]; omega) ?_; (case aR => exact HRC.out); intro v7 w7 ho hb hg hat; clear HO HB; have HO := Aside0.mk ho; have HB := Aside0.mk hb; clear ho hb hg hat))
  go_ret
  exact ⟨_, rfl, HO.out, HB.out⟩

end Go.Proofs.YtomjppafgalaoaaGreatDoor.P
