/-
  Plain lemma: 'copy(out[k+1:], out[k:])', a row of one's own moved up by one place, in place.
-/
import Derived.Test.YtknmfmedklfepaaGreatDoorWWords
import Derived.Laws.CopyRow
import Derived.Lib.SliceRun
namespace Go.Proofs.YtknmfmedklfepaaGreatDoor.P
open Go.RowKit Go.Proofs.YtknmfmedklfepaaGreatDoorW.PrintWords
/-- The row after the copy: all that stood from place k on stands one place further up, and place k as it was. -/
def shL {α : Type} (xs : List α) (k : Nat) : List α := xs.take (k + 1) ++ (xs.drop k).take (xs.length - (k + 1))
theorem shL_len {α : Type} (xs : List α) (k : Nat) (hk : k < xs.length) : (shL xs k).length = xs.length := by
  unfold shL
  rw [List.length_append, List.length_take, List.length_take, List.length_drop]
  omega
theorem run_copy_rowZ {P : Program} (w : World) (dT sT ty elem : TypeId) (sz g o dLen dCap : Nat) (a : Addr) (sLen sCap : Nat) (cur : Array Value) (t : TypeId) (cs : List Value)
    (hu : P.underlying dT = some (.slice elem)) (hs : (P.info? elem).map (·.size) = some sz)
    (hg : w.heap[g]? = some (.cells cur t (0, 0))) (hn : cs.length = Nat.min sLen dLen * sz)
    (hsrc : ∀ j v, cs[j]? = some v → w.cell? (a.add j) = some v) (hfit : o + cs.length ≤ cur.size) (h1 : ∀ v ∈ cs, v.oneCell' = true) :
    (Builtin.copy_ #[dT, sT] ty #[.slice (some ⟨g, o, none⟩) dLen dCap, .slice (some a) sLen sCap]).run P w =
      .ok (goInt (Nat.min sLen dLen)) (w.setRow g (cur.toList.take o ++ cs ++ cur.toList.drop (o + cs.length)).toArray) := by
  have hl := run_loadCells_list (P := P) w a cs hsrc
  have hst := run_storeCells_at P g o t cs 0 cur w hg (by simpa using hfit) h1
  cases hq : P.info? elem with
  | none => simp [hq] at hs
  | some i =>
    have hi : i.size = sz := by simpa [hq] using hs
    simp [Builtin.copy_, run_underlying hu, Builtin.lenOf, Builtin.firstCells, sizeOf, typeInfo, hq, hi, ← hn, hl, hst]

section
variable {P : Program} {α : Type}
theorem R_shift_run (d : Kd α) {W : World} (base : Nat) (t ty e : TypeId) (ht : P.underlying t = some (.slice e)) (hi : (P.info? e).map (·.size) = some d.sz)
    {g n c k : Nat} {xs : List α} {ok : Nat → Prop} (HO : d.R e W base ok (.slice (some ⟨g, 0, none⟩) n c) xs) (hk : k < n) {A1 A2 : Option Addr} (hA1 : A1 = if c = k + 1 then some ⟨g, 0, none⟩ else (some (⟨g, 0, none⟩ : Addr)).map (·.add ((k + 1) * d.sz))) (hA2 : A2 = if c = k then some ⟨g, 0, none⟩ else (some (⟨g, 0, none⟩ : Addr)).map (·.add (k * d.sz))) (c1 c2 : Nat) :
    ∃ w1, (Builtin.copy_ #[t, t] ty #[.slice A1 (n - (k + 1)) c1, .slice A2 (n - k) c2]).run P W = .ok (goInt (Nat.min (n - k) (n - (k + 1)))) w1 ∧ d.R e w1 base ok (.slice (some ⟨g, 0, none⟩) n c) (shL xs k) ∧ W.grownBy w1 (some g) := by
  obtain ⟨hn, hnc, _⟩ := Kd.R_reads' HO
  obtain ⟨hok, inner, hown, hr⟩ := HO
  have hin : inner.length = n * d.sz := by rw [hr.1, hn]
  rcases hown.2 with ⟨hv, _⟩ | ⟨g', cap', cur, hv, hb, hh, _, hcm, hcs, htake⟩
  · cases hv
  injection hv with ha _ hc
  injection ha with ha
  injection ha with hg
  subst hg; subst hc
  rw [← hn] at htake
  rw [if_neg (by omega), Option.map_some] at hA2
  subst hA2
  obtain ⟨news, hnews⟩ : ∃ news, news = (inner.drop (k * d.sz)).take ((n - (k + 1)) * d.sz) := ⟨_, rfl⟩
  have hle : (k + 1) * d.sz ≤ n * d.sz := Nat.mul_le_mul_right _ hk
  have hks : (k + 1) * d.sz = k * d.sz + d.sz := Nat.succ_mul _ _
  have hnc' : n * d.sz ≤ c * d.sz := Nat.mul_le_mul_right _ hnc
  have hsub : (n - (k + 1)) * d.sz = n * d.sz - (k + 1) * d.sz := Nat.sub_mul _ _ _
  have hnl : news.length = (n - (k + 1)) * d.sz := by rw [hnews, List.length_take, List.length_drop, hin]; omega
  have hcur : ∀ q, q < n * d.sz → cur.toList[q]? = inner[q]? := by
    intro q hq
    rw [← htake, List.getElem?_take, if_pos hq]
  have hcell : ∀ j u, news[j]? = some u → W.cell? ((⟨g, 0 + k * d.sz, none⟩ : Addr).add j) = some u := by
    intro j u hu
    have hj : j < news.length := (List.getElem?_eq_some_iff.1 hu).1
    rw [Addr.add_lit, cell_of_row W g _ cur e (0, 0) hh, ← Array.getElem?_toList]
    rw [hnews, List.getElem?_take_of_lt (by omega), List.getElem?_drop] at hu
    rw [← hu, Nat.zero_add]
    exact hcur _ (by omega)
  have hone : ∀ u ∈ news, u.oneCell' = true := by
    intro u hu
    have hu' : u ∈ inner := by rw [hnews] at hu; exact List.mem_of_mem_drop (List.mem_of_mem_take hu)
    obtain ⟨q, hq, rfl⟩ := List.mem_iff_getElem.1 hu'
    have hs0 : 0 < d.sz := by
      rcases Nat.eq_zero_or_pos d.sz with h | h
      · rw [h, Nat.mul_zero] at hin; omega
      · exact h
    have hql : q / d.sz < xs.length := by
      rw [Nat.div_lt_iff_lt_mul hs0, ← hr.1]
      exact hq
    refine d.K_one (d.K_of_M (hr.2 (q / d.sz) _ (List.getElem?_eq_getElem hql))) _ ?_
    rw [List.mem_iff_getElem?]
    refine ⟨q % d.sz, ?_⟩
    rw [List.getElem?_take, if_pos (Nat.mod_lt _ hs0), List.getElem?_drop, Nat.mul_comm, Nat.div_add_mod, List.getElem?_eq_getElem hq]
  obtain ⟨o, ho, hA1', hlist⟩ : ∃ o, o + news.length ≤ cur.size ∧ A1 = some ⟨g, o, none⟩ ∧ (cur.toList.take o ++ news ++ cur.toList.drop (o + news.length)).take (n * d.sz) = inner.take ((k + 1) * d.sz) ++ news := by
    by_cases hck : c = k + 1
    · have h0 : news = [] := List.eq_nil_of_length_eq_zero (by rw [hnl, show n - (k + 1) = 0 by omega, Nat.zero_mul])
      refine ⟨0, by rw [h0]; simp, by rw [hA1, if_pos hck], ?_⟩
      rw [h0]
      simp only [List.take_zero, List.append_nil, List.length_nil, List.drop_zero, List.nil_append, Nat.add_zero]
      rw [htake, show k + 1 = n by omega, List.take_of_length_le (by omega)]
    · refine ⟨(k + 1) * d.sz, by omega, by rw [hA1, if_neg hck, Option.map_some, Addr.add_lit, Nat.zero_add], ?_⟩
      have h7 : cur.toList.take ((k + 1) * d.sz) = inner.take ((k + 1) * d.sz) := by
        rw [← htake, List.take_take, Nat.min_eq_left hle]
      rw [h7]
      exact List.take_left' (by rw [List.length_append, List.length_take, hnl]; omega)
  subst hA1'
  have hrun := run_copy_rowZ (P := P) W t t ty e d.sz g o (n - (k + 1)) c1 ⟨g, 0 + k * d.sz, none⟩ (n - k) c2 cur e news ht hi hh (by rw [hnl]; show _ = min (n - k) (n - (k + 1)) * _; rw [Nat.min_eq_right (by omega)]) hcell ho hone
  rw [Addr.add_lit]
  have hsh : (shL xs k).length = n := by rw [shL_len _ _ (by omega), hn]
  refine ⟨_, hrun, ⟨hok, inner.take ((k + 1) * d.sz) ++ news, ⟨?_, .inr ⟨g, c, _, by rw [hsh], hb, setRow_heap W g cur _ e (0, 0) hh, by rw [hsh]; exact hnc, hcm, ?_, ?_⟩⟩, ?_⟩, ⟨rfl, rfl, rfl, by rw [setRow_size]; exact Nat.le_refl _, fun k' _ hk' => setRow_other W g k' _ (fun he => hk' (by rw [he]))⟩⟩
  · rw [List.length_append, List.length_take, hnl, hsh]
    omega
  · rw [List.size_toArray, List.length_append, List.length_append, List.length_take, List.length_drop, Array.length_toList, ← hcs]
    omega
  · rw [hsh]
    exact hlist
  · unfold shL
    have hmv : ∀ p q, d.M W base (fun k' => ok k' ∧ some k' ≠ (Value.slice (some ⟨g, 0, none⟩) n c).ownBlock) p q → d.M (W.setRow g (cur.toList.take o ++ news ++ cur.toList.drop (o + news.length)).toArray) base (fun k' => ok k' ∧ some k' ≠ (Value.slice (some ⟨g, 0, none⟩) n c).ownBlock) p q := fun p q hp =>
      d.M_move (fun k' hk' => setRow_other W g k' _ (fun he => hk'.2 (by rw [he]; simp [Value.ownBlock]))) hp
    rw [hnews, ← hn]
    rw [hnews] at hmv
    exact Kd.reps_append ((Kd.reps_take hr (by omega)).imp_ hmv) ((Kd.reps_take (Kd.reps_drop hr) (by rw [List.length_drop]; omega)).imp_ hmv)
end
section
variable {P : Program} {ops : Array Oper} {rest : List Oper} {o : Oper} {a : Act} {Q : Exit → Act → World → Prop} {α : Type}
theorem R_shift (d : Kd α) {w0 W : World} (base : Nat) (hgd : o.guard = none) (s x : Operand) (t e : TypeId) (ho : o.op = .call { callee := .builtin .copy, args := #[s, x], argTypes := #[t, t] })
    (ht : P.underlying t = some (.slice e)) (hinfo : (P.info? e).map (·.size) = some d.sz) {g n c k m1 m2 c1 c2 : Nat} {A1 A2 : Option Addr} {xs : List α} {ok : Nat → Prop}
    (hs : a.eval s = .slice A1 m1 c1) (hx : a.eval x = .slice A2 m2 c2) (hA1 : A1 = if c = k + 1 then some ⟨g, 0, none⟩ else (some (⟨g, 0, none⟩ : Addr)).map (·.add ((k + 1) * d.sz))) (hm1 : m1 = n - (k + 1))
    (hA2 : A2 = if c = k then some ⟨g, 0, none⟩ else (some (⟨g, 0, none⟩ : Addr)).map (·.add (k * d.sz))) (hm2 : m2 = n - k)
    (HO : d.R e W base ok (.slice (some ⟨g, 0, none⟩) n c) xs) (hk : k < n) (HB : Below base w0 W) (hbase : base ≤ W.heap.size)
    (h : ∀ w1 z, d.R e w1 base ok (.slice (some ⟨g, 0, none⟩) n c) (shL xs k) → Below base w0 w1 → W.grownBy w1 (some g) → wpList P ops Q rest (a.put o.dst (.int .i64 z)) w1) : wpList P ops Q (o :: rest) a W := by
  subst hm1 hm2
  obtain ⟨w1, hr, h1, h2⟩ := R_shift_run (P := P) d base t o.type e ht hinfo HO hk hA1 hA2 c1 c2
  refine wpList_plain hgd fun K hK => ?_
  unfold Oper.wp execOp
  simp only [ho, resolve, invoke, builtin, Sem.run_bind, Sem.run_pure, Result.andThen_ok, List.map_toArray, List.map_cons, List.map_nil, hs, hx, hr]
  exact hK _ _ (h w1 _ h1 (HB.grown h2 hbase (fun k hk => by injection hk with hk; subst hk; exact Kd.R_base HO _ (by simp [Value.ownBlock]))) h2)
theorem R_shift_step (d : Kd α) {w0 W : World} {Kc : Act → World → Prop} {E : Prop} (base : Nat) (hgd : o.guard = none) (s x : Operand) (t e : TypeId) (ho : o.op = .call { callee := .builtin .copy, args := #[s, x], argTypes := #[t, t] })
    (ht : P.underlying t = some (.slice e)) (hinfo : (P.info? e).map (·.size) = some d.sz) {g n c k m1 m2 c1 c2 : Nat} {A1 A2 : Option Addr} {xs : List α} {ok : Nat → Prop}
    (hs : a.eval s = .slice A1 m1 c1) (hx : a.eval x = .slice A2 m2 c2) (hA1 : A1 = if c = k + 1 then some ⟨g, 0, none⟩ else (some (⟨g, 0, none⟩ : Addr)).map (·.add ((k + 1) * d.sz))) (hm1 : m1 = n - (k + 1))
    (hA2 : A2 = if c = k then some ⟨g, 0, none⟩ else (some (⟨g, 0, none⟩ : Addr)).map (·.add (k * d.sz))) (hm2 : m2 = n - k)
    (HO : d.R e W base ok (.slice (some ⟨g, 0, none⟩) n c) xs) (hk : k < n) (HB : Below base w0 W) (hbase : base ≤ W.heap.size)
    (h : ∀ w1 z, d.R e w1 base ok (.slice (some ⟨g, 0, none⟩) n c) (shL xs k) → Below base w0 w1 → W.grownBy w1 (some g) → Kc (a.put o.dst (.int .i64 z)) w1) :
    if Region.wanted o (yielded ops a.tmps) = true then Oper.wp P o a W Kc Q else E := by
  subst hm1 hm2
  obtain ⟨w1, hr, h1, h2⟩ := R_shift_run (P := P) d base t o.type e ht hinfo HO hk hA1 hA2 c1 c2
  have hw : Region.wanted o (yielded ops a.tmps) = true := by simp [Region.wanted, hgd]
  rw [if_pos hw]
  unfold Oper.wp execOp
  simp only [ho, resolve, invoke, builtin, Sem.run_bind, Sem.run_pure, Result.andThen_ok, List.map_toArray, List.map_cons, List.map_nil, hs, hx, hr]
  exact h w1 _ h1 (HB.grown h2 hbase (fun k hk => by injection hk with hk; subst hk; exact Kd.R_base HO _ (by simp [Value.ownBlock]))) h2
end

end Go.Proofs.YtknmfmedklfepaaGreatDoor.P
