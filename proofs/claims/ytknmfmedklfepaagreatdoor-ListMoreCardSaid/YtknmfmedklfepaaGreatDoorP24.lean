-- Written by this project's own program (wip/tools/hp.py), driving the kit's print; hand texts among it. Not trusted: Lean checks it.
-- half the indentation
import Derived.Test.YtknmfmedklfepaaGreatDoorP0
import Derived.Test.YtknmfmedklfepaaGreatDoorP19
import Derived.Test.YtknmfmedklfepaaGreatDoorP21
import Derived.Test.YtknmfmedklfepaaGreatDoorP22
namespace Go.Proofs.YtknmfmedklfepaaGreatDoor.P
open Go.RowKit Go.Proofs.YtknmfmedklfepaaGreatDoorW.PrintWords Go.Proofs.YtknmfmedklfepaaGreatDoorW.PrintLast Go.Proofs.YtknmfmedklfepaaGreatDoorW.PrintMore
attribute [local go_sem] max2_int min2_int max_two min_two max_three min_three max_four min_four   -- for this text's walks alone
set_option linter.unusedVariables false
set_option linter.unusedSimpArgs false

/-! ### HAND list_Delta -/
/-! #### the versions of each path, in two lists -/
/-- A path's version in a list: the last one that is told. -/
def lastL (p : ByteArray) (l : List S55) : ByteArray := l.foldl (fun v n => if n.f0 = p then n.f1 else v) ⟨#[]⟩
theorem lastL_snoc (p : ByteArray) (l : List S55) (n : S55) : lastL p (l ++ [n]) = if n.f0 = p then n.f1 else lastL p l := by unfold lastL; rw [List.foldl_append]; rfl
def keyS (p : ByteArray) : Lit := .string p.data.toList
def pairD (x y : ByteArray) : DataW Unit := .agg [.lit (.string x.data.toList), .lit (.string y.data.toList)]
def pairElem : Value → Option (DataW Unit × List MemPlace)
 | .agg cs => match cs.toList with
  | [.string a, .string b] => some (pairD a b, [])
  | _ => none
 | _ => none
theorem bytes_ext {x y : ByteArray} (h : x.data.toList = y.data.toList) : x = y := by
 cases x; cases y; simp only at h; congr; exact Array.ext' h
theorem pairElem_inv {v : Value} {x y : ByteArray} {ps : List MemPlace} (h : pairElem v = some (pairD x y, ps)) : v = .agg #[.string x, .string y] := by
 unfold pairElem at h
 split at h
 ·rename_i cs
  split at h
  ·rename_i a b e
   simp only [Option.some.injEq, Prod.mk.injEq, pairD, DataW.agg.injEq, List.cons.injEq, DataW.lit.injEq, Lit.string.injEq, and_true] at h
   obtain rfl : cs = #[.string a, .string b] := Array.ext' e
   rw [bytes_ext h.1.1, bytes_ext h.1.2]
  ·cases h
 ·cases h
theorem pairElem_shape {v : Value} {z : DataW Unit × List MemPlace} (h : pairElem v = some z) : ∃ c : ByteArray × ByteArray, v = .agg #[.string c.1, .string c.2] := by
 unfold pairElem at h
 split at h
 ·rename_i cs
  split at h
  ·rename_i a b e
   exact ⟨(a, b), by rw [show cs = #[.string a, .string b] from Array.ext' e]⟩
  ·cases h
 ·cases h
theorem keyed_str : Maps.Keyed Tryz.prog 9 := Maps.string_keyed Tryz.underlying9
theorem key_str {p : ByteArray} (h : p.size ≤ maxLen) : keyOf Tryz.prog 9 (.string p) = some (keyS p) := WideMaps.keyOf_string_mk Tryz.underlying9 h
theorem zero_arr (w : World) : (zeroValue 70).run Tryz.prog w = .ok (.agg #[.string ⟨#[]⟩, .string ⟨#[]⟩]) w := by kernel_rfl
/-- A map tells of two lists each path's version in both. -/
def PM (D : DataW Unit) (a b : List S55) : Prop := Maps.IsMap D ∧ (∀ x : List UInt8, Maps.has D (.string x) = true ↔ ∃ n, n ∈ a ++ b ∧ n.f0.data.toList = x) ∧ ∀ p : ByteArray, D.atKey (keyS p) (pairD ⟨#[]⟩ ⟨#[]⟩) = pairD (lastL p a) (lastL p b)
theorem PM_nil : PM (.map []) [] [] := ⟨⟨[], rfl⟩, fun x => Iff.intro (fun h => by cases h) (fun h => by obtain ⟨n, h, _⟩ := h; cases h), fun p => rfl⟩
theorem PM_put {D : DataW Unit} {a b a' b' : List S55} (h : PM D a b) (p x y : ByteArray) (hp : p.size ≤ maxLen) (hm : ∀ n, n ∈ a' ++ b' ↔ (n ∈ a ++ b ∨ n.f0 = p ∧ n ∈ a' ++ b')) (hin : ∃ n, n ∈ a' ++ b' ∧ n.f0 = p)
  (ha : ∀ q, lastL q a' = if p = q then x else lastL q a) (hb : ∀ q, lastL q b' = if p = q then y else lastL q b) : PM (D.put (keyS p) (pairD x y)) a' b' := by
 obtain ⟨h1, h2, h3⟩ := h
 have hk : WideAt.IsKeyLit (keyS p) := keyed_str.key (key_str hp)
 refine ⟨h1.put _ _, fun z => ?_, fun q => ?_⟩
 ·by_cases e : z = p.data.toList
  ·subst e
   rw [show (Lit.string p.data.toList) = keyS p from rfl, Maps.has_put_same h1 hk]
   obtain ⟨n, hn, e⟩ := hin
   exact ⟨fun _ => ⟨n, hn, by rw [e]⟩, fun _ => rfl⟩
  ·rw [Maps.has_put_other (k' := .string z) (k := keyS p) (by unfold keyS; intro h; injection h with h; exact e h), h2]
   constructor
   ·rintro ⟨n, hn, rfl⟩; exact ⟨n, (hm n).2 (.inl hn), rfl⟩
   ·rintro ⟨n, hn, rfl⟩
    rcases (hm n).1 hn with h | ⟨h, _⟩
    ·exact ⟨n, h, rfl⟩
    ·exact absurd (by rw [h]) e
 ·by_cases e : p = q
  ·subst e
   rw [Maps.atKey_put_same h1 hk, ha, hb, if_pos rfl, if_pos rfl]
  ·rw [Maps.atKey_put_other (k' := keyS q) (k := keyS p) (by unfold keyS; intro h; injection h with h; exact e (bytes_ext h.symm)), h3, ha, hb, if_neg e, if_neg e]
theorem PM_old {D : DataW Unit} {a : List S55} (h : PM D a []) (n : S55) (hp : n.f0.size ≤ maxLen) : PM (D.put (keyS n.f0) (pairD n.f1 (lastL n.f0 []))) (a ++ [n]) [] := by
 refine PM_put h n.f0 n.f1 _ hp (fun m => ?_) ⟨n, by simp, rfl⟩ (fun q => lastL_snoc q a n) (fun q => by split <;> rfl)
 rw [List.append_nil, List.append_nil, List.mem_append, List.mem_singleton]
 exact ⟨fun h => h.elim .inl fun e => .inr ⟨by rw [e], .inr e⟩, fun h => h.elim .inl fun e => e.2⟩
theorem PM_new {D : DataW Unit} {a b : List S55} (h : PM D a b) (n : S55) (hp : n.f0.size ≤ maxLen) : PM (D.put (keyS n.f0) (pairD (lastL n.f0 a) n.f1)) a (b ++ [n]) := by
 refine PM_put h n.f0 _ n.f1 hp (fun m => ?_) ⟨n, by simp, rfl⟩ (fun q => ?_) (fun q => lastL_snoc q b n)
 ·rw [← List.append_assoc, List.mem_append, List.mem_singleton]
  exact ⟨fun h => h.elim .inl fun e => .inr ⟨by rw [e], .inr e⟩, fun h => h.elim .inl fun e => e.2⟩
 ·by_cases e : n.f0 = q
  ·rw [if_pos e, e]
  ·rw [if_neg e]
/-- Block m of w is such a map of at most n paths. -/
def PO (w : World) (m n : Nat) (a b : List S55) : Prop := ∃ D : DataW Unit, w.ownsMap Tryz.prog 9 pairElem m n D ∧ PM D a b
section
variable {w w' : World} {m n : Nat} {a b : List S55}
theorem PO_same (h : PO w m n a b) (hb : w'.heap[m]? = w.heap[m]?) : PO w' m n a b := by
 obtain ⟨D, ⟨es, clock, h1, h2⟩, h3⟩ := h
 exact ⟨D, ⟨es, clock, hb.trans h1, h2⟩, h3⟩
theorem PO_lt (h : PO w m n a b) : m < w.heap.size := by obtain ⟨D, h, _⟩ := h; exact h.lt
theorem PO_below (h : PO w m n a b) (hb : Below w.heap.size w w') : PO w' m n a b := PO_same h (hb.block m (PO_lt h))
theorem PO_set (h : PO w m n a b) {p : Addr} (hp : m ≠ p.block) (u : Value) : PO (w.setCell p u) m n a b := PO_same h (Below.heap_setCell w p u m hp)
theorem PO_mono (h : PO w m n a b) {n' : Nat} (hn : n ≤ n') : PO w m n' a b := by obtain ⟨D, h, h2⟩ := h; exact ⟨D, h.mono hn, h2⟩
theorem PO_made (w : World) : PO (w.alloc (.map #[] 0)) w.heap.size 0 [] [] := ⟨.map [], World.ownsMap_made _ _ _ _, PM_nil⟩
end
/-- 'm[p]' in the walk. -/
theorem wpList_lookup_pair {w : World} {ops : Array Oper} {rest : List Oper} {o : Oper} {a : Act} {Q : Exit → Act → World → Prop} (hg : o.guard = none) (m x : Operand) (hop : o.op = Op.lookup 67 m x false) (b n : Nat) (la lb : List S55)
  (hm : a.eval m = .map (some b)) (hown : PO w b n la lb) (p : ByteArray) (hx : a.eval x = .string p) (hp : p.size ≤ maxLen)
  (hK : wpList Tryz.prog ops Q rest (a.put o.dst (.agg #[.string (lastL p la), .string (lastL p lb)])) w) : wpList Tryz.prog ops Q (o :: rest) a w := by
 obtain ⟨D, hD, hM⟩ := hown
 refine wpList_plain hg fun K' hK' => ?_
 obtain ⟨v, ps, hrun, hv⟩ := hD.lookup keyed_str Tryz.underlying67 (zero_arr w) (zd := pairD ⟨#[]⟩ ⟨#[]⟩) (zp := []) rfl (key_str hp)
 rw [hM.2.2 p] at hv
 obtain rfl := pairElem_inv hv
 unfold Oper.wp
 simp [execOp, hop, hm, hx, hrun, Result.andThen]
 exact hK' _ _ hK
/-- 'm[p] = v' in the walk. -/
theorem wpList_update_pair {w : World} {ops : Array Oper} {rest : List Oper} {o : Oper} {a : Act} {Q : Exit → Act → World → Prop} (hg : o.guard = none) (m x v : Operand) (hop : o.op = Op.mapUpdate 67 m x v) (b n : Nat) (la lb la' lb' : List S55)
  (hm : a.eval m = .map (some b)) (hown : PO w b n la lb) (hn : n < maxLen) (p u1 u2 : ByteArray) (hx : a.eval x = .string p) (hv : a.eval v = .agg #[.string u1, .string u2]) (hp : p.size ≤ maxLen) (hPM : ∀ D, PM D la lb → PM (D.put (keyS p) (pairD u1 u2)) la' lb')
  (hK : ∀ w', PO w' b (n + 1) la' lb' → w.grownBy w' (some b) → wpList Tryz.prog ops Q rest (a.put o.dst undef) w') : wpList Tryz.prog ops Q (o :: rest) a w := by
 obtain ⟨D, hD, hM⟩ := hown
 exact wpList_mapUpdate_own w hg m x v 67 hop 9 70 keyed_str Tryz.underlying67 pairElem b n D hm hD hn _ _ _ hx hv (key_str hp) (pairD u1 u2) [] rfl (fun w' h1 h2 => hK w' ⟨_, h1, hPM D hM⟩ h2)
theorem index0 (A A' : Option Addr) (n n' c c' : Nat) (w : World) : (Instr.index 96 (.agg #[.slice A n c, .slice A' n' c']) (.int .i64 0)).run Tryz.prog w = .ok (.slice A n c) w := by kernel_rfl
theorem index1 (A A' : Option Addr) (n n' c c' : Nat) (w : World) : (Instr.index 96 (.agg #[.slice A n c, .slice A' n' c']) (.int .i64 1)).run Tryz.prog w = .ok (.slice A' n' c') w := by kernel_rfl
def okP (l : List S55) : Bool := decide (l.length ≤ 1000000000) && l.all fun n => decide (n.f0.size ≤ 1000000000)
theorem okP_len {l : List S55} (h : okP l = true) : l.length ≤ 1000000000 := by
 unfold okP at h
 rw [Bool.and_eq_true, decide_eq_true_eq] at h
 exact h.1
theorem okP_size {l : List S55} (h : okP l = true) {n : S55} (hn : n ∈ l) : n.f0.size ≤ maxLen := by
 unfold okP at h
 rw [Bool.and_eq_true, List.all_eq_true] at h
 have := of_decide_eq_true (h.2 n hn)
 unfold maxLen
 omega
def bothF (k : Nat) (l0 l1 : List S55) : Option Int := if (okP l0 && okP l1) = true then (list_Check.f k l0).bind fun e => (if e = 0 then list_Check.f k l1 else some e) else none
theorem bothF_mono (k : Nat) (l0 l1 : List S55) : LeO (bothF k l0 l1) (bothF (k + 1) l0 l1) := LeO.ite (LeO.bind (list_Check.mono _ _) fun _ => LeO.ite (list_Check.mono _ _) (LeO.refl _)) (LeO.none _)
set_option maxRecDepth 100000 in
set_option maxHeartbeats 8000000 in
theorem both_calls (k : Nat) (A0 : Option Addr) (c0 : Nat) (l0 : List S55) (A1 : Option Addr) (c1 : Nat) (l1 : List S55) (e0 : Int) (w : World) (hr0 : Kd.C k55 w A0 l0.length l0) (hc0 : l0.length ≤ c0) (hr1 : Kd.C k55 w A1 l1.length l1) (hc1 : l1.length ≤ c1) (h : bothF k l0 l1 = some e0) :
  Calls Tryz.prog 40 #[.slice A0 l0.length c0, .slice A1 l1.length c1] w fun e w' => ∃ m : Option Nat, e = .returned (.tuple #[.map m, .int .i64 e0]) ∧ Below w.heap.size w w' ∧ (e0 = 0 → ∃ b, m = some b ∧ w.heap.size ≤ b ∧ PO w' b (l0.length + l1.length) l0 l1) := by
 unfold bothF at h
 replace h := ifN h
 obtain ⟨hok, h⟩ := h
 rw [Bool.and_eq_true] at hok
 obtain ⟨e, he, h⟩ := bnd h
 have HR0 := am hr0
 have HC0 := am hc0
 have HR1 := am hr1
 have HC1 := am hc1
 have HO0 := am hok.1
 have HO1 := am hok.2
 have HE := he
 have H := am h
 have HB := am (Below.refl w.heap.size w)
 have hmm := @run_makeMap Tryz.prog
 have huN := Tryz.underlying55
 have huM := Tryz.underlying67
 have huA := Tryz.underlying70
 have huB := Tryz.underlying96
 have hi0 := index0 A0 A1 l0.length l1.length c0 c1
 have hi1 := index1 A0 A1 l0.length l1.length c0 c1
 clear hr0 hc0 hr1 hc1 hok he h
 go_enter Tryz.func40, Tryz.ntmps40
 go_wp2
 obtain ⟨mb, hmb⟩ : ∃ mb, mb = w.heap.size := ⟨_, rfl⟩
 have HM := am (PO_made w)
 have HBn := am (below_alloc HB.out (.map #[] 0))
 clear HB
 have HB := HBn
 clear HBn
 have GW : Aside0 (w.heap.size ≤ w.heap.size) := ⟨Nat.le_refl _⟩
 generalize w.alloc (.map #[] 0) = wm at HB HM ⊢
 go_loopw [17] (fun v17 wr => Aside0 (Below w.heap.size w wr) ∧ ((v17 = .int .i64 0 ∧ Aside0 (PO wr w.heap.size 0 [] [])) ∨ (v17 = .int .i64 1 ∧ Aside0 (e = 0) ∧ Aside0 (PO wr w.heap.size l0.length l0 [])) ∨ (v17 = .int .i64 2 ∧ Aside0 (e0 = 0) ∧ Aside0 (PO wr w.heap.size (l0.length + l1.length) l0 l1)))) (fun v17 _ => 2 - (intOf v17).toNat)
 case atStart => exact ⟨HB, .inl ⟨rfl, HM⟩⟩
 case round =>
  clear HB HM
  obtain ⟨HB, ⟨rfl, HM⟩ | ⟨rfl, HE0, HM⟩ | ⟨rfl, HE0, HM⟩⟩ := hrel
  ·by_cases h0 : e = 0
   case neg =>
    have h := H.out
    rw [if_neg h0] at h
    obtain rfl := Option.some.inj h
    have d0 : (e != 0) = true := bne_iff_ne.mpr h0
    have HN := am h0
    clear h0 h H
    go_wp2_with (first | (go_at_call 12; refine (list_Check.calls k _ _ l0 e _ (Kd.C_below HR0.out HB.out) HC0.out HE.out).mono ?_; rintro _ w1 ⟨rfl, hb⟩; replace HB := am (below_step HB.out hb); clear hb))
    go_ret2
    exact ⟨_, rfl, HB.out, fun h => absurd h HN.out⟩
   subst h0
   have d0 : ((0 : Int) != 0) = false := rfl
   go_wp2_with (first | (go_at_call 12; refine (list_Check.calls k _ _ l0 0 _ (Kd.C_below HR0.out HB.out) HC0.out HE.out).mono ?_; rintro _ w1 ⟨rfl, hb⟩; replace HM := am (PO_below HM.out hb); replace HB := am (below_step HB.out hb); clear hb))
   go_loopw [28] (fun v28 wr => ∃ (j : Nat) (jv : Int), j ≤ l0.length ∧ jv = (j : Int) ∧ v28 = .int .i64 jv ∧ Aside0 (PO wr w.heap.size (j) (l0.take j) []) ∧ Aside0 (Below w.heap.size w wr)) (fun v28 _ => l0.length - (intOf v28).toNat)
   case atStart => exact ⟨0, 0, by omega, rfl, rfl, by simpa using HM, HB⟩
   case round =>
    clear HB HM
    obtain ⟨j, jv, hj, hjv, rfl, HM, HB⟩ := hrel
    by_cases hlt : j < l0.length
    case neg =>
     have hnl : ¬ (jv < (l0.length : Int)) := by omega
     have hM := HM.out
     rw [List.take_of_length_le (by omega)] at hM
     have HM := am (PO_mono (n' := l0.length) hM (by omega))
     clear hM
     go_wp2
     refine ⟨?rel, ?measure⟩
     case measure => decide
     case rel => exact ⟨HB, .inr (.inl ⟨rfl, ⟨trivial⟩, HM⟩)⟩
    case pos =>
     have p0 := eq_true (show (0 : Int) ≤ jv by omega)
     have q0 := eq_true (show jv < (l0.length : Int) by omega)
     have hl63 : l0.length ≤ 9223372036854775807 := by have := okP_len HO0.out; omega
     obtain ⟨ad, ead, hx0, hx1⟩ := at_T55 (Kd.C_below HR0.out HB.out) jv (by omega) (by omega)
     cases ead
     have hrd : rd_T55 l0 jv = l0[j] := by rw [hjv]; simp [rd_T55, List.getD_eq_getElem?_getD, hlt]
     obtain ⟨nd, hnd⟩ : ∃ nd, nd = l0[j] := ⟨_, rfl⟩
     rw [hrd, ← hnd] at hx0 hx1
     have HSZ := am (show nd.f0.size ≤ maxLen by rw [hnd]; exact okP_size HO0.out (List.getElem_mem hlt))
     have HTK := am (show l0.take (j + 1) = l0.take j ++ [nd] by rw [List.take_succ_eq_append_getElem hlt, hnd])
     have Hjv := am hjv
     have Hlt := am hlt
     clear hnd hrd hjv hlt hj
     go_wp2_with (first
      | ((with_reducible refine gtD 11 ?_); refine xBx 11 55 #[.string ⟨#[]⟩, .string ⟨#[]⟩] ?_; intro g1 hg w9 hbox hb; have GE1 := am (gTx hg HB.out); have NE1 := am (show w.heap.size ≠ g1 by rw [hg]; exact Nat.ne_of_lt (PO_lt HM.out)); have BK1 := am hbox; replace HM := am (PO_below HM.out hb); replace HB := am (below_step HB.out hb); clear hb hbox hg; obtain ⟨b0, b1, b2, b3⟩ := bxB BK1)
      | ((with_reducible refine gate_store (t := 55) (p := 11) rfl ?_); refine store_event (t := 55) (p := 11) (v := ?vo) (w1 := ((w9.setCell ⟨g1, 0, none⟩ (.string nd.f0)).setCell ⟨g1, 1, none⟩ (.string nd.f1))) ?hg ?ho ?hn ?hr ?_; (case ho => rfl); (case hg => rfl); (case hn => rfl); (case hr => first | (go_simp; done) | (go_simp; rfl)); intro w10 hw; have n0_ : Aside0 (w10.heap[g1]? = some (.cells #[.string nd.f0, .string nd.f1] 55 (0, 0))) := ⟨by rw [hw]; exact kBk⟩; have n1_ := am (show PO w10 w.heap.size (j) (l0.take j) [] by rw [hw]; exact PO_set (PO_set HM.out NE1.out _) NE1.out _); replace HB := am (show Below w.heap.size w w10 by rw [hw]; exact below_set (below_set HB.out GE1.out) GE1.out); clear hw HM BK1; have BK1 := n0_; have HM := n1_; clear n0_ n1_; obtain ⟨b4, b5, b6, b7⟩ := bxB BK1)
      | (at_lookup; refine wpList_lookup_pair rfl _ _ rfl w.heap.size _ (l0.take j) [] rfl HM.out nd.f0 rfl HSZ.out ?_)
      | ((with_reducible refine gtD 12 ?_); refine xBx 12 70 #[.string ⟨#[]⟩, .string ⟨#[]⟩] ?_; intro g2 hg w11 hbox hb; have GE2 := am (gTx hg HB.out); have NE2 := am (show w.heap.size ≠ g2 by rw [hg]; exact Nat.ne_of_lt (PO_lt HM.out)); have N12 := am (nT BK1.out hg); have BK2 := am hbox; replace HM := am (PO_below HM.out hb); replace BK1 := am (blk_below BK1.out hb); replace HB := am (below_step HB.out hb); clear hb hbox hg; obtain ⟨d0, d1, d2, d3⟩ := bxB BK2; obtain ⟨f0, f1, f2, f3⟩ := bxB BK1; have n12 := N12.out; have n21 := N12.out.symm)
      | ((with_reducible refine gate_store (t := 70) (p := 12) rfl ?_); go_loud (refine store_event (t := 70) (p := 12) (v := ?vp) (w1 := ((w11.setCell ⟨g2, 0, none⟩ (.string (lastL nd.f0 (l0.take j)))).setCell ⟨g2, 1, none⟩ (.string (lastL nd.f0 [])))) ?hg ?ho ?hn ?hr ?_; (case ho => rfl); (case hg => rfl); (case hn => rfl); (case hr => first | (go_simp; done) | (go_simp; rfl)); intro w12 hw; have n0_ : Aside0 (w12.heap[g2]? = some (.cells #[.string (lastL nd.f0 (l0.take j)), .string (lastL nd.f0 [])] 70 (0, 0))) := ⟨by rw [hw]; exact kBk⟩; have n2_ : Aside0 (w12.heap[g1]? = some (.cells #[.string nd.f0, .string nd.f1] 55 (0, 0))) := ⟨by rw [hw]; exact kBk⟩; have n1_ := am (show PO w12 w.heap.size (j) (l0.take j) [] by rw [hw]; exact PO_set (PO_set HM.out NE2.out _) NE2.out _); replace HB := am (show Below w.heap.size w w12 by rw [hw]; exact below_set (below_set HB.out GE2.out) GE2.out); clear hw HM BK2 BK1; have BK2 := n0_; have BK1 := n2_; have HM := n1_; clear n0_ n1_ n2_; obtain ⟨d4, d5, d6, d7⟩ := bxB BK2; obtain ⟨f4, f5, f6, f7⟩ := bxB BK1))
      | (at_mapUpdate; go_loud (refine wpList_update_pair rfl _ _ _ rfl w.heap.size (j) (l0.take j) [] (l0.take j ++ [nd]) [] rfl (PO_set HM.out NE2.out _) (by have := okP_len HO0.out; have := okP_len HO1.out; have := Hlt.out; unfold maxLen; omega) nd.f0 nd.f1 (lastL nd.f0 []) rfl rfl HSZ.out (fun D h => PM_old h nd HSZ.out) ?_; intro w12 hM3 hg3; have HM3 := am hM3; have HBc := am (below_set HB.out GE2.out (j := 0) (v := .string nd.f1)); replace HB := am (pw_below_grown HBc.out _ (below_size HBc.out) hg3 (fun k_ hk_ => by cases hk_; exact Nat.le_refl _)); clear hM3 hg3 HBc)))
     refine ⟨?rel, ?measure⟩
     case measure =>
      show l0.length - (wrap64 (jv + 1)).toNat < l0.length - jv.toNat
      have := Hjv.out
      have := Hlt.out
      have := okP_len HO0.out
      unfold wrap64
      omega
     case rel =>
      have hw1 : wrap64 (jv + 1) = ((j + 1 : Nat) : Int) := by have := Hjv.out; have := Hlt.out; have := okP_len HO0.out; unfold wrap64; omega
      exact ⟨j + 1, wrap64 (jv + 1), by have := Hlt.out; omega, hw1, rfl, ⟨by rw [HTK.out]; exact HM3.out⟩, HB⟩
  ·obtain rfl := HE0.out
   have h := H.out
   rw [if_pos rfl] at h
   have HF := am h
   clear h HE0
   by_cases h0 : e0 = 0
   case neg =>
    have d0 : (e0 != 0) = true := bne_iff_ne.mpr h0
    have HN := am h0
    clear h0 H
    go_wp2_with (first | (go_at_call 12; refine (list_Check.calls k _ _ l1 e0 _ (Kd.C_below HR1.out HB.out) HC1.out HF.out).mono ?_; rintro _ w1 ⟨rfl, hb⟩; replace HB := am (below_step HB.out hb); clear hb))
    go_ret2
    exact ⟨_, rfl, HB.out, fun h => absurd h HN.out⟩
   subst h0
   go_wp2_with (first | (go_at_call 12; refine (list_Check.calls k _ _ l1 0 _ (Kd.C_below HR1.out HB.out) HC1.out HF.out).mono ?_; rintro _ w1 ⟨rfl, hb⟩; replace HM := am (PO_below HM.out hb); replace HB := am (below_step HB.out hb); clear hb))
   go_loopw [28] (fun v28 wr => ∃ (j : Nat) (jv : Int), j ≤ l1.length ∧ jv = (j : Int) ∧ v28 = .int .i64 jv ∧ Aside0 (PO wr w.heap.size (l0.length + j) l0 (l1.take j)) ∧ Aside0 (Below w.heap.size w wr)) (fun v28 _ => l1.length - (intOf v28).toNat)
   case atStart => exact ⟨0, 0, by omega, rfl, rfl, by simpa using HM, HB⟩
   case round =>
    clear HB HM
    obtain ⟨j, jv, hj, hjv, rfl, HM, HB⟩ := hrel
    by_cases hlt : j < l1.length
    case neg =>
     have hnl : ¬ (jv < (l1.length : Int)) := by omega
     have hM := HM.out
     rw [List.take_of_length_le (by omega)] at hM
     have HM := am (PO_mono (n' := l0.length + l1.length) hM (by omega))
     clear hM
     go_wp2
     refine ⟨?rel, ?measure⟩
     case measure => decide
     case rel => exact ⟨HB, .inr (.inr ⟨rfl, ⟨trivial⟩, HM⟩)⟩
    case pos =>
     have p0 := eq_true (show (0 : Int) ≤ jv by omega)
     have q0 := eq_true (show jv < (l1.length : Int) by omega)
     have hl63 : l1.length ≤ 9223372036854775807 := by have := okP_len HO1.out; omega
     obtain ⟨ad, ead, hx0, hx1⟩ := at_T55 (Kd.C_below HR1.out HB.out) jv (by omega) (by omega)
     cases ead
     have hrd : rd_T55 l1 jv = l1[j] := by rw [hjv]; simp [rd_T55, List.getD_eq_getElem?_getD, hlt]
     obtain ⟨nd, hnd⟩ : ∃ nd, nd = l1[j] := ⟨_, rfl⟩
     rw [hrd, ← hnd] at hx0 hx1
     have HSZ := am (show nd.f0.size ≤ maxLen by rw [hnd]; exact okP_size HO1.out (List.getElem_mem hlt))
     have HTK := am (show l1.take (j + 1) = l1.take j ++ [nd] by rw [List.take_succ_eq_append_getElem hlt, hnd])
     have Hjv := am hjv
     have Hlt := am hlt
     clear hnd hrd hjv hlt hj
     go_wp2_with (first
      | ((with_reducible refine gtD 11 ?_); refine xBx 11 55 #[.string ⟨#[]⟩, .string ⟨#[]⟩] ?_; intro g1 hg w9 hbox hb; have GE1 := am (gTx hg HB.out); have NE1 := am (show w.heap.size ≠ g1 by rw [hg]; exact Nat.ne_of_lt (PO_lt HM.out)); have BK1 := am hbox; replace HM := am (PO_below HM.out hb); replace HB := am (below_step HB.out hb); clear hb hbox hg; obtain ⟨b0, b1, b2, b3⟩ := bxB BK1)
      | ((with_reducible refine gate_store (t := 55) (p := 11) rfl ?_); refine store_event (t := 55) (p := 11) (v := ?vo) (w1 := ((w9.setCell ⟨g1, 0, none⟩ (.string nd.f0)).setCell ⟨g1, 1, none⟩ (.string nd.f1))) ?hg ?ho ?hn ?hr ?_; (case ho => rfl); (case hg => rfl); (case hn => rfl); (case hr => first | (go_simp; done) | (go_simp; rfl)); intro w10 hw; have n0_ : Aside0 (w10.heap[g1]? = some (.cells #[.string nd.f0, .string nd.f1] 55 (0, 0))) := ⟨by rw [hw]; exact kBk⟩; have n1_ := am (show PO w10 w.heap.size (l0.length + j) l0 (l1.take j) by rw [hw]; exact PO_set (PO_set HM.out NE1.out _) NE1.out _); replace HB := am (show Below w.heap.size w w10 by rw [hw]; exact below_set (below_set HB.out GE1.out) GE1.out); clear hw HM BK1; have BK1 := n0_; have HM := n1_; clear n0_ n1_; obtain ⟨b4, b5, b6, b7⟩ := bxB BK1)
      | (at_lookup; refine wpList_lookup_pair rfl _ _ rfl w.heap.size _ l0 (l1.take j) rfl HM.out nd.f0 rfl HSZ.out ?_)
      | ((with_reducible refine gtD 12 ?_); refine xBx 12 70 #[.string ⟨#[]⟩, .string ⟨#[]⟩] ?_; intro g2 hg w11 hbox hb; have GE2 := am (gTx hg HB.out); have NE2 := am (show w.heap.size ≠ g2 by rw [hg]; exact Nat.ne_of_lt (PO_lt HM.out)); have N12 := am (nT BK1.out hg); have BK2 := am hbox; replace HM := am (PO_below HM.out hb); replace BK1 := am (blk_below BK1.out hb); replace HB := am (below_step HB.out hb); clear hb hbox hg; obtain ⟨d0, d1, d2, d3⟩ := bxB BK2; obtain ⟨f0, f1, f2, f3⟩ := bxB BK1; have n12 := N12.out; have n21 := N12.out.symm)
      | ((with_reducible refine gate_store (t := 70) (p := 12) rfl ?_); go_loud (refine store_event (t := 70) (p := 12) (v := ?vp) (w1 := ((w11.setCell ⟨g2, 0, none⟩ (.string (lastL nd.f0 l0))).setCell ⟨g2, 1, none⟩ (.string (lastL nd.f0 (l1.take j))))) ?hg ?ho ?hn ?hr ?_; (case ho => rfl); (case hg => rfl); (case hn => rfl); (case hr => first | (go_simp; done) | (go_simp; rfl)); intro w12 hw; have n0_ : Aside0 (w12.heap[g2]? = some (.cells #[.string (lastL nd.f0 l0), .string (lastL nd.f0 (l1.take j))] 70 (0, 0))) := ⟨by rw [hw]; exact kBk⟩; have n2_ : Aside0 (w12.heap[g1]? = some (.cells #[.string nd.f0, .string nd.f1] 55 (0, 0))) := ⟨by rw [hw]; exact kBk⟩; have n1_ := am (show PO w12 w.heap.size (l0.length + j) l0 (l1.take j) by rw [hw]; exact PO_set (PO_set HM.out NE2.out _) NE2.out _); replace HB := am (show Below w.heap.size w w12 by rw [hw]; exact below_set (below_set HB.out GE2.out) GE2.out); clear hw HM BK2 BK1; have BK2 := n0_; have BK1 := n2_; have HM := n1_; clear n0_ n1_ n2_; obtain ⟨d4, d5, d6, d7⟩ := bxB BK2; obtain ⟨f4, f5, f6, f7⟩ := bxB BK1))
      | (at_mapUpdate; go_loud (refine wpList_update_pair rfl _ _ _ rfl w.heap.size (l0.length + j) l0 (l1.take j) l0 (l1.take j ++ [nd]) rfl (PO_set HM.out NE2.out _) (by have := okP_len HO0.out; have := okP_len HO1.out; have := Hlt.out; unfold maxLen; omega) nd.f0 (lastL nd.f0 l0) nd.f1 rfl rfl HSZ.out (fun D h => PM_new h nd HSZ.out) ?_; intro w12 hM3 hg3; have HM3 := am hM3; have HBc := am (below_set HB.out GE2.out (j := 1) (v := .string nd.f1)); replace HB := am (pw_below_grown HBc.out _ (below_size HBc.out) hg3 (fun k_ hk_ => by cases hk_; exact Nat.le_refl _)); clear hM3 hg3 HBc)))
     refine ⟨?rel, ?measure⟩
     case measure =>
      show l1.length - (wrap64 (jv + 1)).toNat < l1.length - jv.toNat
      have := Hjv.out
      have := Hlt.out
      have := okP_len HO1.out
      unfold wrap64
      omega
     case rel =>
      have hw1 : wrap64 (jv + 1) = ((j + 1 : Nat) : Int) := by have := Hjv.out; have := Hlt.out; have := okP_len HO1.out; unfold wrap64; omega
      exact ⟨j + 1, wrap64 (jv + 1), by have := Hlt.out; omega, hw1, rfl, ⟨by rw [HTK.out]; exact HM3.out⟩, HB⟩
  ·obtain rfl := HE0.out
   go_wp2
   go_ret2
   exact ⟨_, rfl, HB.out, w.heap.size, rfl, Nat.le_refl _, HM.out⟩
/-! #### paths in order -/
def ltP (p q : ByteArray) : Prop := p.data.toList < q.data.toList
theorem cmpP_if (p q : ByteArray) : cmpP p q = if p.data.toList < q.data.toList then -1 else if q.data.toList < p.data.toList then 1 else 0 := by
 unfold cmpP
 simp only [bytesLess_eq, Lib.toList_data, decide_eq_true_eq]
theorem cmpP_lt (p q : ByteArray) : cmpP p q < 0 ↔ ltP p q := by
 rw [cmpP_if]
 unfold ltP
 by_cases h : p.data.toList < q.data.toList
 ·simp [h]
 ·by_cases h2 : q.data.toList < p.data.toList <;> simp [h, h2]
theorem cmpP_zero (p q : ByteArray) : cmpP p q = 0 ↔ p = q := by
 rw [cmpP_if]
 by_cases h : p.data.toList < q.data.toList
 ·rw [if_pos h]
  exact ⟨fun e => absurd e (by decide), fun e => by subst e; exact absurd h (List.lt_irrefl _)⟩
 ·rw [if_neg h]
  by_cases h2 : q.data.toList < p.data.toList
  ·rw [if_pos h2]
   exact ⟨fun e => absurd e (by decide), fun e => by subst e; exact absurd h2 (List.lt_irrefl _)⟩
  ·rw [if_neg h2]
   exact ⟨fun _ => bytes_ext (List.le_antisymm h2 h), fun _ => rfl⟩
theorem ltP_trans {p q r : ByteArray} (h : ltP p q) (h' : ltP q r) : ltP p r := List.lt_trans h h'
theorem ltP_tri {p q : ByteArray} (h : ¬ ltP p q) (h' : p ≠ q) : ltP q p := Classical.byContradiction fun h2 => h' (bytes_ext (List.le_antisymm h2 h))
def insP (p : ByteArray) : List ByteArray → List ByteArray
 | [] => [p]
 | q :: l => if cmpP q p < 0 then q :: insP p l else if q = p then q :: l else p :: q :: l
/-- The paths of nodes, in order, each once. -/
def pathsL (l : List S55) : List ByteArray := l.foldl (fun a n => insP n.f0 a) []
theorem insP_mem (p x : ByteArray) : ∀ l, x ∈ insP p l ↔ x = p ∨ x ∈ l
 | [] => by simp [insP]
 | q :: l => by
  unfold insP
  split
  ·rw [List.mem_cons, insP_mem p x l, List.mem_cons]
   exact ⟨fun h => h.elim (fun h => .inr (.inl h)) (fun h => h.elim .inl fun h => .inr (.inr h)), fun h => h.elim (fun h => .inr (.inl h)) (fun h => h.elim .inl fun h => .inr (.inr h))⟩
  ·split
   ·rename_i e
    subst e
    exact ⟨fun h => .inr h, fun h => h.elim (fun h => by rw [h]; exact List.mem_cons_self) id⟩
   ·rw [List.mem_cons]
theorem insP_sorted (p : ByteArray) : ∀ l : List ByteArray, l.Pairwise ltP → (insP p l).Pairwise ltP
 | [], _ => List.pairwise_singleton _ _
 | q :: l, h => by
  obtain ⟨h1, h2⟩ := List.pairwise_cons.1 h
  unfold insP
  split
  ·rename_i hc
   refine List.pairwise_cons.2 ⟨fun x hx => ?_, insP_sorted p l h2⟩
   rcases (insP_mem p x l).1 hx with rfl | hx
   ·exact (cmpP_lt _ _).1 hc
   ·exact h1 x hx
  ·rename_i hc
   split
   ·exact h
   ·rename_i hne
    have hlt := ltP_tri (fun h => hc ((cmpP_lt _ _).2 h)) hne
    refine List.pairwise_cons.2 ⟨fun x hx => ?_, h⟩
    rcases List.mem_cons.1 hx with rfl | hx
    ·exact hlt
    ·exact ltP_trans hlt (h1 x hx)
theorem insP_len (p : ByteArray) : ∀ l : List ByteArray, (insP p l).length ≤ l.length + 1
 | [] => Nat.le_refl _
 | q :: l => by
  unfold insP
  have := insP_len p l
  split
  ·simp only [List.length_cons]; omega
  ·split <;> simp only [List.length_cons] <;> omega
theorem paths_foldl : ∀ (l : List S55) (a : List ByteArray), a.Pairwise ltP → (l.foldl (fun a n => insP n.f0 a) a).Pairwise ltP ∧ (∀ x, x ∈ l.foldl (fun a n => insP n.f0 a) a ↔ x ∈ a ∨ ∃ n, n ∈ l ∧ n.f0 = x) ∧ (l.foldl (fun a n => insP n.f0 a) a).length ≤ a.length + l.length
 | [], a, h => ⟨h, fun x => by simp, by simp⟩
 | n :: l, a, h => by
  obtain ⟨h1, h2, h3⟩ := paths_foldl l (insP n.f0 a) (insP_sorted _ _ h)
  refine ⟨h1, fun x => ?_, ?_⟩
  ·rw [List.foldl_cons, h2, insP_mem]
   constructor
   ·rintro ((rfl | h) | ⟨m, hm, rfl⟩)
    ·exact .inr ⟨n, List.mem_cons_self, rfl⟩
    ·exact .inl h
    ·exact .inr ⟨m, List.mem_cons_of_mem _ hm, rfl⟩
   ·rintro (h | ⟨m, hm, rfl⟩)
    ·exact .inl (.inr h)
    ·rcases List.mem_cons.1 hm with rfl | hm
     ·exact .inl (.inl rfl)
     ·exact .inr ⟨m, hm, rfl⟩
  ·rw [List.foldl_cons, List.length_cons]; have := insP_len n.f0 a; omega
theorem pathsL_sorted (l : List S55) : (pathsL l).Pairwise ltP := (paths_foldl l [] List.Pairwise.nil).1
theorem pathsL_mem (l : List S55) (x : ByteArray) : x ∈ pathsL l ↔ ∃ n, n ∈ l ∧ n.f0 = x := by
 rw [pathsL, (paths_foldl l [] List.Pairwise.nil).2.1]; simp
theorem pathsL_len (l : List S55) : (pathsL l).length ≤ l.length := by
 have := (paths_foldl l [] List.Pairwise.nil).2.2
 simpa [pathsL] using this
theorem str_reps {w : World} {base : Nat} {ok : Nat → Prop} (xs : List ByteArray) : Reps (Kd.M Kd.string w base ok) 1 xs (xs.map fun x => .string x) := by
 refine ⟨by simp, fun j p hj => ?_⟩
 rw [Nat.mul_one, ← List.map_drop, ← List.map_take]
 have hlt := (List.getElem?_eq_some_iff.1 hj).1
 have hx := (List.getElem?_eq_some_iff.1 hj).2
 rw [List.drop_eq_getElem_cons hlt, hx]
 rfl
open Go.Maps Go.Sort Go.Shelf in
theorem sorts_str (m : Nat) : AnyZ.SortsIn Tryz.prog Tryz.sortedA_ren Fence.wide m :=
 ⟨fun blk off cap ss W hH hblk hsz => callsIn_wide.2 (AnyM.slices_Sort_string Tryz.sortA blk off cap ss W hH hblk hsz),
  fun p cap W => callsIn_wide.2 (AnyM.slices_Sort_string_none Tryz.sortA p cap W)⟩
open Go.Maps Go.Sort Go.Shelf in
/-- maps.Keys(m). -/
theorem keysK_calls (mb : Option Nat) (w : World) : Calls Tryz.prog 44 #[.map mb] w fun e w' => e = .returned (.func (.func 75) #[] #[.pointer (some ⟨w.heap.size, 0, none⟩)]) ∧ w' = w.alloc (.cells #[.map mb] 67) :=
 (callsIn_wide (n := 5)).1 (AnyZ.keys_in Tryz.keysA Fence.wide 5 trivial rfl mb w)
open Go.Maps Go.Sort Go.Shelf in
set_option maxHeartbeats 1000000 in
/-- slices.Sorted of it. -/
theorem sortedS_calls (B b nn : Nat) (la lb : List S55) (w : World) (hBl : B < w.heap.size) (hB : w.cell? ⟨B, 0, none⟩ = some (.map (some b))) (hP : PO w b nn la lb) (hn : nn ≤ 2000000000) :
  Calls Tryz.prog 43 #[.func (.func 75) #[] #[.pointer (some ⟨B, 0, none⟩)]] w fun e w' => ∃ v, e = .returned v ∧ Kd.R Kd.string 9 w' w.heap.size (fun _ => True) v (pathsL (la ++ lb)) ∧ Below w.heap.size w w' := by
 obtain ⟨D, hown, hM⟩ := hP
 have hsz := hown.size_le
 have hseq : SeqGives Fence.wide 2 Tryz.prog 75 #[.pointer (some ⟨B, 0, none⟩)] encStr (fun ss => ss.Perm (strKeys D)) (Maps.size D) w :=
  AnyZ.keys_gives (ρ := Tryz.keysA_ren) { Tryz.keysA with } Fence.wide _ trivial rfl (by omega) B b nn D w hBl hB hown
 have cS := AnyZ.sorted_in Tryz.sortedA Fence.wide 5 trivial trivial trivial trivial rfl (by omega) (sorts_str _) (enters_of Tryz.func74 (by kernel_rfl) rfl) 75 #[.pointer (some ⟨B, 0, none⟩)] trivial (enters_of Tryz.func75 (by kernel_rfl) rfl) _ _ (by unfold maxLen; omega) (by omega) _ hseq
 change CallsIn _ _ Tryz.prog 43 _ _ _ at cS
 refine ((callsIn_wide (n := 5)).1 cS).mono ?_
 rintro e w' ⟨v, ss, rfl, hp, hrow, hnil, hb⟩
 have hr := pathsL_sorted (la ++ lb)
 have hp2 : ((pathsL (la ++ lb)).map fun p => p.data.toList).Perm (strKeys D) := Collected.perm (left := fun _ => false)
  ⟨List.pairwise_map.2 (hr.imp fun {a b} h e => by unfold ltP at h; rw [e] at h; exact List.lt_irrefl _ h), fun x => by
   rw [List.mem_map, hM.2.1]
   constructor
   ·rintro ⟨p, hp, rfl⟩
    obtain ⟨n, hn, rfl⟩ := (pathsL_mem _ _).1 hp
    exact ⟨⟨n, hn, rfl⟩, rfl⟩
   ·rintro ⟨⟨n, hn, rfl⟩, -⟩
    exact ⟨n.f0, (pathsL_mem _ _).2 ⟨n, hn, rfl⟩, rfl⟩⟩ hown keyed_str Tryz.underlying9 (fun _ => rfl)
 have hms : ss.mergeSort (fun x y => decide (x ≤ y)) = (pathsL (la ++ lb)).map fun p => p.data.toList := by
  refine (mergeSort_of_perm (hp.trans hp2.symm)).trans ?_
  exact List.mergeSort_of_pairwise (List.pairwise_map.2 (hr.imp fun {a b} h => decide_eq_true (List.le_of_lt h)))
 rw [hms] at hrow
 have hl : ss.length = (pathsL (la ++ lb)).length := by rw [← List.length_mergeSort (le := fun x y => decide (x ≤ y)) ss, hms, List.length_map]
 rw [hl, List.map_map] at hrow
 refine ⟨v, rfl, ⟨fun _ _ => trivial, _, hrow, ?_⟩, hb⟩
 have e : (pathsL (la ++ lb)).map (encStr ∘ fun p => p.data.toList) = (pathsL (la ++ lb)).map fun x => .string x := List.map_congr_left fun x _ => by simp [encStr]
 rw [e]
 exact str_reps _
/-! #### what changes -/
def chgL (l0 l1 : List S55) (p : ByteArray) : Option S75 := if (lastL p l0).toList = (lastL p l1).toList then none else some ⟨p, lastL p l0, lastL p l1⟩
def deltaL (l0 l1 : List S55) : List S75 := (pathsL (l0 ++ l1)).filterMap (chgL l0 l1)
def list_Delta.f (k : Nat) (l0 : List (S55)) (l1 : List (S55)) : Option (List (S75) × Int) := (bothF k l0 l1).bind fun e => if e = 0 then some (deltaL l0 l1, 0) else some ([], e)
theorem list_Delta.mono : ∀ a0 a1 k, LeO (list_Delta.f k a0 a1) (list_Delta.f (k + 1) a0 a1) := fun a b k => LeO.bind (bothF_mono k a b) fun _ => LeO.refl _
theorem bothF_ok {k : Nat} {l0 l1 : List S55} {e : Int} (h : bothF k l0 l1 = some e) : okP l0 = true ∧ okP l1 = true := by
 unfold bothF at h
 replace h := ifN h
 obtain ⟨hok, h⟩ := h
 rw [Bool.and_eq_true] at hok
 exact hok
theorem filterMap_snoc_some {α β : Type} {g : α → Option β} {l : List α} {x : α} {y : β} (h : g x = some y) : (l ++ [x]).filterMap g = l.filterMap g ++ [y] := by rw [List.filterMap_append]; simp [h]
theorem filterMap_snoc_none {α β : Type} {g : α → Option β} {l : List α} {x : α} (h : g x = none) : (l ++ [x]).filterMap g = l.filterMap g := by rw [List.filterMap_append]; simp [h]
set_option maxRecDepth 100000 in
set_option maxHeartbeats 8000000 in
theorem list_Delta.calls (k : Nat) (A0 : Option Addr) (c0 : Nat) (l0 : List (S55)) (A1 : Option Addr) (c1 : Nat) (l1 : List (S55)) (r1 : List (S75)) (r2 : Int) (w : World) (hr0 : Kd.C k55 w A0 l0.length l0) (hc0 : l0.length ≤ c0) (hr1 : Kd.C k55 w A1 l1.length l1) (hc1 : l1.length ≤ c1) (h : list_Delta.f k l0 l1 = some (r1, r2)) :
  Calls Tryz.prog 23 #[.slice A0 l0.length c0, .slice A1 l1.length c1] w fun e w' => ∃ v0_ : Value, e = .returned (.tuple #[v0_, .int .i64 r2]) ∧ Kd.R k75 75 w' w.heap.size (fun _ => True) v0_ r1 ∧ Below w.heap.size w w' := by
 unfold list_Delta.f at h
 obtain ⟨e, he, h⟩ := bnd h
 have HOK := am (bothF_ok he.out)
 have HR0 := am hr0
 have HC0 := am hc0
 have HR1 := am hr1
 have HC1 := am hc1
 have HE := he
 have HBw := am (Below.refl w.heap.size w)
 have huB := Tryz.underlying70
 have huC := Tryz.underlying75
 clear hr0 hc0 hr1 hc1 he
 go_enter Tryz.func23, Tryz.ntmps23
 by_cases h0 : e = 0
 case neg =>
  rw [if_neg h0] at h
  obtain ⟨rfl, rfl⟩ := prB h
  have d0 : (e != 0) = true := bne_iff_ne.mpr h0
  clear h0 h
  go_wp2_with (first | (go_at_call 40; refine (both_calls k _ _ l0 _ _ l1 e _ HR0.out HC0.out HR1.out HC1.out HE.out).mono ?_; rintro _ w1 ⟨m, rfl, hb, hm⟩; replace HBw := am (below_step HBw.out hb); clear hb hm))
  go_ret2
  exact ⟨_, rfl, Kd.R_nil _ _ _ _ _, HBw.out⟩
 subst h0
 rw [if_pos rfl] at h
 obtain ⟨rfl, rfl⟩ := prB h
 clear h
 have d0 : ((0 : Int) != 0) = false := rfl
 go_wp2_with (first
  | (go_at_call 40; refine (both_calls k _ _ l0 _ _ l1 0 _ HR0.out HC0.out HR1.out HC1.out HE.out).mono ?_; rintro _ w1 ⟨m, rfl, hb, hm⟩; obtain ⟨b, rfl, hbb, hP⟩ := hm rfl; have HP := am hP; replace HBw := am (below_step HBw.out hb); clear hb hm hbb hP)
  | (go_at_call 44; refine (keysK_calls (some b) _).mono ?_; rintro _ w2 ⟨rfl, hw2⟩; have hP2 := (show PO w2 b (l0.length + l1.length) l0 l1 by rw [hw2]; exact PO_below HP.out (below_alloc (Below.refl _ _) _)); replace HBw := am (show Below w.heap.size w w2 by rw [hw2]; exact below_alloc HBw.out _); have BKm := (show w2.heap[w1.heap.size]? = some (.cells #[.map (some b)] 67 (0, 0)) by rw [hw2]; exact heap_alloc_new _ _); have hlt2 : w1.heap.size < w2.heap.size := blk_lt BKm; clear hw2 HP; have HP := am hP2; clear hP2)
  | (go_at_call 43; refine (sortedS_calls w1.heap.size b (l0.length + l1.length) l0 l1 _ hlt2 ((blk_cell BKm 0).trans rfl) HP.out (by have := okP_len HOK.out.1; have := okP_len HOK.out.2; omega)).mono ?_; rintro _ w3 ⟨v, rfl, hrow, hb⟩; replace HP := am (PO_below HP.out hb); replace HBw := am (below_step HBw.out hb); have HRW := am hrow; clear hb hrow BKm hlt2; obtain ⟨A3, c3, hv3⟩ := Kd.R_slice HRW.out; subst hv3))
 have HCs := am (Kd.R_reads' HRW.out).2.2
 clear HRW
 have HPS := am (fun x (hx : x ∈ pathsL (l0 ++ l1)) => (show x.size ≤ maxLen by obtain ⟨n, hn, rfl⟩ := (pathsL_mem _ _).1 hx; exact (List.mem_append.1 hn).elim (okP_size HOK.out.1) (okP_size HOK.out.2)))
 have HLN := am (show (pathsL (l0 ++ l1)).length ≤ 2000000000 by have := pathsL_len (l0 ++ l1); rw [List.length_append] at this; have := okP_len HOK.out.1; have := okP_len HOK.out.2; omega)
 have HDL := am (show deltaL l0 l1 = (pathsL (l0 ++ l1)).filterMap (chgL l0 l1) from rfl)
 generalize pathsL (l0 ++ l1) = ps at HCs HPS HLN HDL ⊢
 have HB := am (Below.refl w3.heap.size w3)
 go_loopw [8, 25] (fun v8 v25 wr => ∃ (j : Nat) (jv : Int), j ≤ ps.length ∧ jv = (j : Int) ∧ v25 = .int .i64 jv ∧ Aside0 (Kd.R k75 75 wr w3.heap.size (fun _ => True) v8 ((ps.take j).filterMap (chgL l0 l1))) ∧ Aside0 (Below w3.heap.size w3 wr)) (fun _ v25 _ => ps.length - (intOf v25).toNat)
 case atStart => exact ⟨0, 0, by omega, rfl, rfl, ⟨Kd.R_nil _ _ _ _ _⟩, HB⟩
 case round =>
  clear HB
  obtain ⟨j, jv, hj, hjv, rfl, HS, HB⟩ := hrel
  by_cases hlt : j < ps.length
  case neg =>
   have hnl : ¬ (jv < (ps.length : Int)) := by omega
   have hS := HS.out
   rw [List.take_of_length_le (by omega), ← HDL.out] at hS
   have HS2 := am hS
   clear hS HS
   go_wp2
   go_ret2
   exact ⟨_, rfl, Kd.R_lower HS2.out (below_size HBw.out), below_step HBw.out HB.out⟩
  case pos =>
   have p0 := eq_true (show (0 : Int) ≤ jv by omega)
   have q0 := eq_true (show jv < (ps.length : Int) by omega)
   have hl63 : ps.length ≤ 9223372036854775807 := by have := HLN.out; omega
   obtain ⟨ad, ead, hx0⟩ := Kd.at_string (Kd.C_below HCs.out HB.out) jv (by omega) (by omega)
   cases ead
   have hrd : rdOf ByteArray.empty ps jv = ps[j] := by rw [hjv]; simp [rdOf, List.getD_eq_getElem?_getD, hlt]
   obtain ⟨p, hp⟩ : ∃ p, p = ps[j] := ⟨_, rfl⟩
   rw [hrd, ← hp] at hx0
   have HSZ := am (HPS.out p (by rw [hp]; exact List.getElem_mem hlt))
   have HTK := am (show ps.take (j + 1) = ps.take j ++ [p] by rw [List.take_succ_eq_append_getElem hlt, hp])
   have Hjv := am hjv
   have Hlt := am hlt
   have HLF := am (show ((ps.take j).filterMap (chgL l0 l1)).length ≤ 2000000000 by have h1 := List.length_filterMap_le (chgL l0 l1) (ps.take j); have h2 := List.length_take_le j ps; have := HLN.out; omega)
   clear hp hrd hjv hlt hj
   by_cases hc : (lastL p l0).toList = (lastL p l1).toList
   case pos =>
    have dn : ((lastL p l0).toList == (lastL p l1).toList) = true := beq_iff_eq.mpr hc
    have dm := bne_eq_false_iff_eq.mpr hc
    have HG := am (show chgL l0 l1 p = none by unfold chgL; rw [if_pos hc])
    clear hc
    go_wp2_with (first
     | (at_lookup; refine wpList_lookup_pair rfl _ _ rfl b _ l0 l1 rfl (PO_below HP.out HB.out) p rfl HSZ.out ?_)
     | ((with_reducible refine gtD 11 ?_); refine xBx 11 70 #[.string ⟨#[]⟩, .string ⟨#[]⟩] ?_; intro g hg w9 hbox hb; have GE := am (gTx hg HB.out); have BK := am hbox; replace HS := am (Kd.R_below HS.out hb); replace HB := am (below_step HB.out hb); clear hb hbox hg; obtain ⟨d0, d1, d2, d3⟩ := bxB BK)
     | ((with_reducible refine gate_store (t := 70) (p := 11) rfl ?_); refine store_event (t := 70) (p := 11) (v := ?vo) (w1 := ((w9.setCell ⟨g, 0, none⟩ (.string (lastL p l0))).setCell ⟨g, 1, none⟩ (.string (lastL p l1)))) ?hg ?ho ?hn ?hr ?_; (case ho => rfl); (case hg => rfl); (case hn => rfl); (case hr => first | (go_simp; done) | (go_simp; rfl)); intro w10 hw; have n0_ : Aside0 (w10.heap[g]? = some (.cells #[.string (lastL p l0), .string (lastL p l1)] 70 (0, 0))) := ⟨by rw [hw]; exact kBk⟩; have n1_ := am (show Kd.R k75 75 w10 w3.heap.size (fun _ => True) _ ((ps.take j).filterMap (chgL l0 l1)) by rw [hw]; exact Kd.R_mono (Kd.R_far (p := ⟨g, 1, none⟩) (Kd.R_far (p := ⟨g, 0, none⟩) (Kd.R_types HS.out BK.out (by decide)) (fun _ hk => hk.2) _) (fun _ hk => hk.2) _) (fun _ h_ => h_.1)); replace HB := am (show Below w3.heap.size w3 w10 by rw [hw]; exact below_set (below_set HB.out GE.out) GE.out); clear hw HS BK; have BK := n0_; have HS := n1_; clear n0_ n1_; obtain ⟨d4, d5, d6, d7⟩ := bxB BK))
    refine ⟨?rel, ?measure⟩
    case measure =>
     show ps.length - (wrap64 (jv + 1)).toNat < ps.length - jv.toNat
     have := Hjv.out
     have := Hlt.out
     have := HLN.out
     unfold wrap64
     omega
    case rel =>
     have hw1 : wrap64 (jv + 1) = ((j + 1 : Nat) : Int) := by have := Hjv.out; have := Hlt.out; have := HLN.out; unfold wrap64; omega
     exact ⟨j + 1, wrap64 (jv + 1), by have := Hlt.out; omega, hw1, rfl, ⟨by rw [HTK.out, filterMap_snoc_none HG.out]; exact HS.out⟩, HB⟩
   case neg =>
    have dn : ((lastL p l0).toList == (lastL p l1).toList) = false := beq_eq_false_iff_ne.mpr hc
    have dm := bne_iff_ne.mpr hc
    have HG := am (show chgL l0 l1 p = some ⟨p, lastL p l0, lastL p l1⟩ by unfold chgL; rw [if_neg hc])
    clear hc
    obtain ⟨xs, hxs⟩ : ∃ xs, xs = (ps.take j).filterMap (chgL l0 l1) := ⟨_, rfl⟩
    rw [← hxs] at HS HLF
    have HFE := am (show (ps.take (j + 1)).filterMap (chgL l0 l1) = xs ++ [(⟨p, lastL p l0, lastL p l1⟩ : S75)] by rw [HTK.out, filterMap_snoc_some HG.out, ← hxs])
    clear hxs HG HTK
    obtain ⟨A8, c8, hv8⟩ := Kd.R_slice HS.out
    subst hv8
    go_wp2_with (first
     | (at_lookup; refine wpList_lookup_pair rfl _ _ rfl b _ l0 l1 rfl (PO_below HP.out HB.out) p rfl HSZ.out ?_)
     | ((with_reducible refine gtD 11 ?_); refine xBx 11 70 #[.string ⟨#[]⟩, .string ⟨#[]⟩] ?_; intro g hg w9 hbox hb; have GE := am (gTx hg HB.out); have BK := am hbox; replace HS := am (Kd.R_below HS.out hb); replace HB := am (below_step HB.out hb); clear hb hbox hg; obtain ⟨d0, d1, d2, d3⟩ := bxB BK)
     | ((with_reducible refine gate_store (t := 70) (p := 11) rfl ?_); refine store_event (t := 70) (p := 11) (v := ?vo) (w1 := ((w9.setCell ⟨g, 0, none⟩ (.string (lastL p l0))).setCell ⟨g, 1, none⟩ (.string (lastL p l1)))) ?hg ?ho ?hn ?hr ?_; (case ho => rfl); (case hg => rfl); (case hn => rfl); (case hr => first | (go_simp; done) | (go_simp; rfl)); intro w10 hw; have n0_ : Aside0 (w10.heap[g]? = some (.cells #[.string (lastL p l0), .string (lastL p l1)] 70 (0, 0))) := ⟨by rw [hw]; exact kBk⟩; have n1_ := am (show Kd.R k75 75 w10 w3.heap.size (fun _ => True) (.slice A8 xs.length c8) xs by rw [hw]; exact Kd.R_mono (Kd.R_far (p := ⟨g, 1, none⟩) (Kd.R_far (p := ⟨g, 0, none⟩) (Kd.R_types HS.out BK.out (by decide)) (fun _ hk => hk.2) _) (fun _ hk => hk.2) _) (fun _ h_ => h_.1)); replace HB := am (show Below w3.heap.size w3 w10 by rw [hw]; exact below_set (below_set HB.out GE.out) GE.out); clear hw HS BK; have BK := n0_; have HS := n1_; clear n0_ n1_; obtain ⟨d4, d5, d6, d7⟩ := bxB BK)
     | ((with_reducible refine gate_builtin (b := .append) (xs := #[.tmp 37, .tmp 44]) rfl ?_); at_builtin; refine Kd.R_append k75 (w0 := w3) w3.heap.size rfl (.tmp 37) (.tmp 44) 43 75 (.agg #[(.string ⟨#[]⟩), (.string ⟨#[]⟩), (.string ⟨#[]⟩)]) 48 rfl Tryz.underlying43 info75 rfl (by decide) (by omega) (.slice A8 xs.length c8) xs (⟨p, lastL p l0, lastL p l1⟩ : S75) [.string p, .string (lastL p l0), .string (lastL p l1)] (fun _ => True) (fun _ => False) rfl rfl ?aP (fun _ hk => hk.elim) ?aF ?aO ?aB ?aS ?aL ?_; (case aP => exact k75_mkM _ _ _ (⟨p, lastL p l0, lastL p l1⟩ : S75)); (case aB => exact HB.out); (case aF => exact (fun _ _ => trivial)); (case aO => exact HS.out); (case aS => exact (below_size HB.out)); (case aL => have := HLF.out; omega); intro dg w12 ho hb hg hat; replace HB := am hb; have HS2 := am ho; clear HS ho hb hg hat))
    refine ⟨?rel, ?measure⟩
    case measure =>
     show ps.length - (wrap64 (jv + 1)).toNat < ps.length - jv.toNat
     have := Hjv.out
     have := Hlt.out
     have := HLN.out
     unfold wrap64
     omega
    case rel =>
     have hw1 : wrap64 (jv + 1) = ((j + 1 : Nat) : Int) := by have := Hjv.out; have := Hlt.out; have := HLN.out; unfold wrap64; omega
     exact ⟨j + 1, wrap64 (jv + 1), by have := Hlt.out; omega, hw1, rfl, ⟨by rw [HFE.out]; exact HS2.out⟩, HB⟩
/-! #### above -/
def abvOne (k : Nat) (a b : ByteArray) : Option Bool := if a.toList = [] then some true else (version_Cmp.f k b a).bind fun t => some (decide (t.2 = 0) && !decide (t.1 < 0))
def abvAll (k : Nat) (l0 l1 : List S55) : List ByteArray → Option Bool
 | [] => some true
 | p :: ps => (abvOne k (lastL p l0) (lastL p l1)).bind fun x => (abvAll k l0 l1 ps).bind fun y => some (x && y)
theorem abvOne_mono (k : Nat) (a b : ByteArray) : LeO (abvOne k a b) (abvOne (k + 1) a b) := LeO.ite (LeO.refl _) (LeO.bind (version_Cmp.mono _ _ _) fun _ => LeO.refl _)
theorem abvAll_mono (k : Nat) (l0 l1 : List S55) : ∀ ps, LeO (abvAll k l0 l1 ps) (abvAll (k + 1) l0 l1 ps)
 | [] => LeO.refl _
 | _ :: ps => LeO.bind (abvOne_mono _ _ _) fun _ => LeO.bind (abvAll_mono k l0 l1 ps) fun _ => LeO.refl _
theorem abvAll_all {k : Nat} {l0 l1 : List S55} : ∀ {ps : List ByteArray} {r : Bool}, abvAll k l0 l1 ps = some r → (∀ p, p ∈ ps → ∃ x, abvOne k (lastL p l0) (lastL p l1) = some x ∧ (x = false → r = false)) ∧ ((∀ p, p ∈ ps → abvOne k (lastL p l0) (lastL p l1) = some true) → r = true)
 | [], r, h => ⟨fun p hp => by simp at hp, fun _ => (Option.some.inj h).symm⟩
 | p :: ps, r, h => by
  obtain ⟨x, hx, h⟩ := Option.bind_eq_some_iff.1 h
  obtain ⟨y, hy, h⟩ := Option.bind_eq_some_iff.1 h
  obtain ⟨h1, h2⟩ := abvAll_all hy
  obtain rfl := Option.some.inj h
  refine ⟨fun q hq => ?_, fun ha => ?_⟩
  ·rcases List.mem_cons.1 hq with rfl | hq
   ·exact ⟨x, hx, fun e => by rw [e]; rfl⟩
   ·obtain ⟨z, hz, e⟩ := h1 q hq
    exact ⟨z, hz, fun e' => by rw [e e', Bool.and_false]⟩
  ·have e := ha p List.mem_cons_self
   rw [hx] at e
   rw [Option.some.inj e, h2 (fun q hq => ha q (List.mem_cons_of_mem _ hq))]
   rfl
def list_Above.f (k : Nat) (l0 : List (S55)) (l1 : List (S55)) : Option (Bool × Int) := (bothF k l0 l1).bind fun e => if e = 0 then (abvAll k l0 l1 (pathsL (l0 ++ l1))).bind fun b => some (b, 0) else some (false, e)
theorem list_Above.mono : ∀ a0 a1 k, LeO (list_Above.f k a0 a1) (list_Above.f (k + 1) a0 a1) := fun a b k => LeO.bind (bothF_mono k a b) fun _ => LeO.ite (LeO.bind (abvAll_mono _ _ _ _) fun _ => LeO.refl _) (LeO.refl _)
theorem RG_same {w w' : World} {b r n cnt : Nat} {D : DataW Unit} {left : Lit → Bool} (h : w.ranges Tryz.prog 9 pairElem b r n D left cnt) (h1 : w'.heap[b]? = w.heap[b]?) (h2 : w'.heap[r]? = w.heap[r]?) : w'.ranges Tryz.prog 9 pairElem b r n D left cnt := by
 obtain ⟨es, clock, since, seen, c0, hb, F, hs, hD, hr, rest⟩ := h
 exact ⟨es, clock, since, seen, c0, h1.trans hb, F, hs, hD, h2.trans hr, rest⟩
theorem RG_below {w w' : World} {b r n cnt : Nat} {D : DataW Unit} {left : Lit → Bool} (h : w.ranges Tryz.prog 9 pairElem b r n D left cnt) (hb : Below w.heap.size w w') : w'.ranges Tryz.prog 9 pairElem b r n D left cnt := RG_same h (hb.block b h.owns.lt) (hb.block r h.lt)
theorem RG_set {w : World} {b r n cnt : Nat} {D : DataW Unit} {left : Lit → Bool} (h : w.ranges Tryz.prog 9 pairElem b r n D left cnt) {p : Addr} (h1 : b ≠ p.block) (h2 : r ≠ p.block) (u : Value) : (w.setCell p u).ranges Tryz.prog 9 pairElem b r n D left cnt := RG_same h (Below.heap_setCell w p u b h1) (Below.heap_setCell w p u r h2)
set_option maxRecDepth 100000 in
set_option maxHeartbeats 8000000 in
theorem list_Above.calls (k : Nat) (A0 : Option Addr) (c0 : Nat) (l0 : List (S55)) (A1 : Option Addr) (c1 : Nat) (l1 : List (S55)) (r1 : Bool) (r2 : Int) (w : World) (hr0 : Kd.C k55 w A0 l0.length l0) (hc0 : l0.length ≤ c0) (hr1 : Kd.C k55 w A1 l1.length l1) (hc1 : l1.length ≤ c1) (h : list_Above.f k l0 l1 = some (r1, r2)) :
  Calls Tryz.prog 20 #[.slice A0 l0.length c0, .slice A1 l1.length c1] w fun e w' => e = .returned (.tuple #[.bool r1, .int .i64 r2]) ∧ Below w.heap.size w w' := by
 unfold list_Above.f at h
 obtain ⟨e, he, h⟩ := bnd h
 have HOK := am (bothF_ok he.out)
 have HR0 := am hr0
 have HC0 := am hc0
 have HR1 := am hr1
 have HC1 := am hc1
 have HE := he
 have HB := am (Below.refl w.heap.size w)
 have huB := Tryz.underlying70
 have huM := Tryz.underlying67
 clear hr0 hc0 hr1 hc1 he
 go_enter Tryz.func20, Tryz.ntmps20
 by_cases h0 : e = 0
 case neg =>
  rw [if_neg h0] at h
  obtain ⟨rfl, rfl⟩ := prB h
  have d0 : (e != 0) = true := bne_iff_ne.mpr h0
  clear h0 h
  go_wp2_with (first | (go_at_call 40; refine (both_calls k _ _ l0 _ _ l1 e _ HR0.out HC0.out HR1.out HC1.out HE.out).mono ?_; rintro _ w1 ⟨m, rfl, hb, hm⟩; replace HB := am (below_step HB.out hb); clear hb hm))
  go_ret2
  exact ⟨rfl, HB.out⟩
 subst h0
 rw [if_pos rfl] at h
 obtain ⟨r0, hA, h⟩ := bnd h
 obtain ⟨rfl, rfl⟩ := prB h
 clear h
 have d0 : ((0 : Int) != 0) = false := rfl
 have HA := am (abvAll_all hA.out)
 clear hA
 have HPM := am (fun x => pathsL_mem (l0 ++ l1) x)
 generalize pathsL (l0 ++ l1) = ps at HA HPM
 go_wp2_with (first
  | (go_at_call 40; refine (both_calls k _ _ l0 _ _ l1 0 _ HR0.out HC0.out HR1.out HC1.out HE.out).mono ?_; rintro _ w1 ⟨m, rfl, hb, hm⟩; obtain ⟨b, rfl, hbb, hP⟩ := hm rfl; have HGB := am hbb; replace HB := am (below_step HB.out hb); clear hb hm hbb; obtain ⟨D, hown, hM⟩ := hP; have HM := am hM; clear hM; have HZ := am hown.lt)
  | (at_range; refine wpList_range_own _ rfl _ 67 rfl 9 70 keyed_str huM _ b _ D rfl hown ?_; intro w14 hrg0 hg0 hs0; have HB2 := am (pw_below_grown HB.out _ (below_size HB.out) hg0 (fun k_ hk_ => by cases hk_)); clear hown hg0 hs0 HB; have HB := HB2; clear HB2; have HRG := am hrg0; clear hrg0))
 go_frame
 go_loopw [23] (fun _ wr => ∃ (left : Lit → Bool) (cnt : Nat), Aside0 (wr.ranges Tryz.prog 9 pairElem b w1.heap.size (l0.length + l1.length) D left cnt) ∧ Aside0 (Below w.heap.size w wr) ∧ Aside0 (∀ p, p ∈ ps → left (keyS p) = false → abvOne k (lastL p l0) (lastL p l1) = some true) ∧ Aside0 (∀ p, left (keyS p) = true → p ∈ ps)) (fun _ wr => wr.rangeLeft b w1.heap.size)
 case atStart =>
  have hps : ∀ p : ByteArray, Maps.has D (keyS p) = true ↔ p ∈ ps := fun p => (HM.out.2.1 p.data.toList).trans (Iff.trans ⟨fun ⟨n, h1, h2⟩ => ⟨n, h1, bytes_ext h2⟩, fun ⟨n, h1, h2⟩ => ⟨n, h1, by rw [h2]⟩⟩ (HPM.out p).symm)
  exact ⟨_, _, HRG, HB, ⟨fun p hp hl => absurd ((hps p).2 hp) (by rw [hl]; exact Bool.false_ne_true)⟩, ⟨fun p h => (hps p).1 h⟩⟩
 clear HB HRG
 obtain ⟨left, cnt, HR, HB, HX, HL⟩ := hrel
 have hrg := HR.out
 go_wp2_with (first | (at_next; refine wpList_next_ranges _ rfl _ rfl 9 keyed_str pairElem (Value.string) (fun c : ByteArray × ByteArray => .agg #[.string c.1, .string c.2]) (fun key kl hk => by obtain ⟨s, rfl, _, _⟩ := WideMaps.string_of_keyOf Tryz.underlying9 hk; exact ⟨s, rfl⟩) (fun v y hv => pairElem_shape hv) b w1.heap.size (l0.length + l1.length) _ _ _ rfl hrg ?_ ?_))
 rotate_left
 ·intro p a0 b0 kl y1 y2 w15 cnt1 hkey hlk hv hat hrg1 hlt hg1 hs1 hen
  obtain ⟨p', ep, rfl, hsz⟩ := WideMaps.string_of_keyOf Tryz.underlying9 hkey
  cases ep
  have hy := (hat (pairD ⟨#[]⟩ ⟨#[]⟩)).symm.trans (HM.out.2.2 p)
  subst hy
  have hc := pairElem_inv hv
  have hc1 : a0 = lastL p l0 ∧ b0 = lastL p l1 := by simpa using hc
  obtain ⟨ha, hb⟩ := hc1
  have HPIN := am (HL.out p hlk)
  obtain ⟨x, hx, hxr⟩ := HA.out.1 p HPIN.out
  rw [← ha, ← hb] at hx
  have HXP := am (show abvOne k a0 b0 = some true → ∀ q, q ∈ ps → (left (keyS q) && !(keyS q).sameKey (keyS p)) = false → abvOne k (lastL q l0) (lastL q l1) = some true from fun h1 q hq h2 => by
   by_cases e : q = p
   ·subst e; rw [← ha, ← hb]; exact h1
   ·refine HX.out q hq ?_
    have h3 := Maps.sameKey_ne (a := keyS q) (b := keyS p) (fun h => e (by unfold keyS at h; injection h with h; exact bytes_ext h))
    rw [h3] at h2
    simpa using h2)
  have HLP := am (show ∀ q, (left (keyS q) && !(keyS q).sameKey (keyS p)) = true → q ∈ ps from fun q h => HL.out q (by rw [Bool.and_eq_true] at h; exact h.1))
  have HRG := am hrg1
  have HLT := am hlt
  have HRR := am hrg
  have HZR := am (show b ≠ w1.heap.size ∧ w1.heap.size < w15.heap.size from ⟨fun e => hrg1.ne e.symm, hrg1.lt⟩)
  have HB15 := am (pw_below_grown HB.out _ (below_size HB.out) hg1 (fun k_ hk_ => by cases hk_; exact Nat.le_of_lt (Nat.lt_of_le_of_lt HGB.out HZ.out)))
  clear HB HR HX HL hrg hrg1 hlt hg1 hs1 hkey hlk hv hat hc ha hb hsz
  have HB := HB15
  clear HB15
  by_cases hem : a0.toList = ([] : List UInt8)
  ·have dn : (a0.toList == ([] : List UInt8)) = true := beq_iff_eq.mpr hem
   have HNX := am (HXP.out (by unfold abvOne; rw [if_pos hem]))
   clear hem hx hxr HXP
   go_wp2_with (first
    | ((with_reducible refine gtD 9 ?_); refine xBx 9 70 #[.string ⟨#[]⟩, .string ⟨#[]⟩] ?_; intro g hg w16 hbox hb; have GE := am (gTx hg HB.out); have NE := am (show b ≠ g ∧ w1.heap.size ≠ g by rw [hg]; have := HZ.out; have := HZR.out.2; exact ⟨by omega, by omega⟩); have BK := am hbox; replace HRG := am (RG_below HRG.out hb); replace HB := am (below_step HB.out hb); clear hb hbox hg; obtain ⟨d0, d1, d2, d3⟩ := bxB BK)
    | ((with_reducible refine gate_store (t := 70) (p := 9) rfl ?_); refine store_event (t := 70) (p := 9) (v := ?vo) (w1 := ((w16.setCell ⟨g, 0, none⟩ (.string a0)).setCell ⟨g, 1, none⟩ (.string b0))) ?hg ?ho ?hn ?hr ?_; (case ho => rfl); (case hg => rfl); (case hn => rfl); (case hr => first | (go_simp; done) | (go_simp; rfl)); intro w17 hw; have n0_ : Aside0 (w17.heap[g]? = some (.cells #[.string a0, .string b0] 70 (0, 0))) := ⟨by rw [hw]; exact kBk⟩; have n1_ := am (show w17.ranges Tryz.prog 9 pairElem b w1.heap.size (l0.length + l1.length) D _ cnt1 by rw [hw]; exact RG_set (RG_set HRG.out NE.out.1 NE.out.2 _) NE.out.1 NE.out.2 _); replace HB := am (show Below w.heap.size w w17 by rw [hw]; exact below_set (below_set HB.out GE.out) GE.out); clear hw HRG BK; have BK := n0_; have HRG := n1_; clear n0_ n1_; obtain ⟨d4, d5, d6, d7⟩ := bxB BK))
   go_roundw
   case rel => exact ⟨_, cnt1, HRG, HB, HNX, HLP⟩
   case measure => rw [HRG.out.left_eq, HRR.out.left_eq]; exact HLT.out
  ·have dn : (a0.toList == ([] : List UInt8)) = false := beq_eq_false_iff_ne.mpr hem
   have hx1 := hx
   unfold abvOne at hx
   rw [if_neg hem] at hx
   obtain ⟨⟨cc, ee⟩, HCM, hx⟩ := bnd hx
   have hx := Option.some.inj hx
   clear hem
   by_cases he0 : ee = 0
   ·subst he0
    have de : ((0 : Int) != 0) = false := rfl
    by_cases hcc : cc < 0
    ·have dc := decide_eq_true hcc
     have hxf : x = false := by rw [← hx]; simp [hcc]
     have hr := hxr hxf
     subst hr
     clear hcc hxf hxr hx hx1 HXP
     go_wp2_with (first
      | ((with_reducible refine gtD 9 ?_); refine xBx 9 70 #[.string ⟨#[]⟩, .string ⟨#[]⟩] ?_; intro g hg w16 hbox hb; have GE := am (gTx hg HB.out); have NE := am (show b ≠ g ∧ w1.heap.size ≠ g by rw [hg]; have := HZ.out; have := HZR.out.2; exact ⟨by omega, by omega⟩); have BK := am hbox; replace HRG := am (RG_below HRG.out hb); replace HB := am (below_step HB.out hb); clear hb hbox hg; obtain ⟨d0, d1, d2, d3⟩ := bxB BK)
      | ((with_reducible refine gate_store (t := 70) (p := 9) rfl ?_); refine store_event (t := 70) (p := 9) (v := ?vo) (w1 := ((w16.setCell ⟨g, 0, none⟩ (.string a0)).setCell ⟨g, 1, none⟩ (.string b0))) ?hg ?ho ?hn ?hr ?_; (case ho => rfl); (case hg => rfl); (case hn => rfl); (case hr => first | (go_simp; done) | (go_simp; rfl)); intro w17 hw; have n0_ : Aside0 (w17.heap[g]? = some (.cells #[.string a0, .string b0] 70 (0, 0))) := ⟨by rw [hw]; exact kBk⟩; have n1_ := am (show w17.ranges Tryz.prog 9 pairElem b w1.heap.size (l0.length + l1.length) D _ cnt1 by rw [hw]; exact RG_set (RG_set HRG.out NE.out.1 NE.out.2 _) NE.out.1 NE.out.2 _); replace HB := am (show Below w.heap.size w w17 by rw [hw]; exact below_set (below_set HB.out GE.out) GE.out); clear hw HRG BK; have BK := n0_; have HRG := n1_; clear n0_ n1_; obtain ⟨d4, d5, d6, d7⟩ := bxB BK)
      | (go_at_call 41; refine (version_Cmp.calls k b0 a0 cc _ _ HCM.out).mono ?_; rintro _ w18 ⟨rfl, hb⟩; replace HRG := am (RG_below HRG.out hb); replace HB := am (below_step HB.out hb); clear hb))
     go_ret2
     exact ⟨rfl, HB.out⟩
    ·have dc := decide_eq_false hcc
     have hxt : x = true := by rw [← hx]; simp [hcc]
     have HNX := am (HXP.out (by rw [hx1, hxt]))
     clear hcc hxt hxr hx hx1 HXP
     go_wp2_with (first
      | ((with_reducible refine gtD 9 ?_); refine xBx 9 70 #[.string ⟨#[]⟩, .string ⟨#[]⟩] ?_; intro g hg w16 hbox hb; have GE := am (gTx hg HB.out); have NE := am (show b ≠ g ∧ w1.heap.size ≠ g by rw [hg]; have := HZ.out; have := HZR.out.2; exact ⟨by omega, by omega⟩); have BK := am hbox; replace HRG := am (RG_below HRG.out hb); replace HB := am (below_step HB.out hb); clear hb hbox hg; obtain ⟨d0, d1, d2, d3⟩ := bxB BK)
      | ((with_reducible refine gate_store (t := 70) (p := 9) rfl ?_); refine store_event (t := 70) (p := 9) (v := ?vo) (w1 := ((w16.setCell ⟨g, 0, none⟩ (.string a0)).setCell ⟨g, 1, none⟩ (.string b0))) ?hg ?ho ?hn ?hr ?_; (case ho => rfl); (case hg => rfl); (case hn => rfl); (case hr => first | (go_simp; done) | (go_simp; rfl)); intro w17 hw; have n0_ : Aside0 (w17.heap[g]? = some (.cells #[.string a0, .string b0] 70 (0, 0))) := ⟨by rw [hw]; exact kBk⟩; have n1_ := am (show w17.ranges Tryz.prog 9 pairElem b w1.heap.size (l0.length + l1.length) D _ cnt1 by rw [hw]; exact RG_set (RG_set HRG.out NE.out.1 NE.out.2 _) NE.out.1 NE.out.2 _); replace HB := am (show Below w.heap.size w w17 by rw [hw]; exact below_set (below_set HB.out GE.out) GE.out); clear hw HRG BK; have BK := n0_; have HRG := n1_; clear n0_ n1_; obtain ⟨d4, d5, d6, d7⟩ := bxB BK)
      | (go_at_call 41; refine (version_Cmp.calls k b0 a0 cc _ _ HCM.out).mono ?_; rintro _ w18 ⟨rfl, hb⟩; replace HRG := am (RG_below HRG.out hb); replace HB := am (below_step HB.out hb); clear hb))
     go_roundw
     case rel => exact ⟨_, cnt1, HRG, HB, HNX, HLP⟩
     case measure => rw [HRG.out.left_eq, HRR.out.left_eq]; exact HLT.out
   ·have de : (ee != 0) = true := bne_iff_ne.mpr he0
    have hxf : x = false := by rw [← hx]; simp [he0]
    have hr := hxr hxf
    subst hr
    clear he0 hxf hxr hx hx1 HXP
    go_wp2_with (first
     | ((with_reducible refine gtD 9 ?_); refine xBx 9 70 #[.string ⟨#[]⟩, .string ⟨#[]⟩] ?_; intro g hg w16 hbox hb; have GE := am (gTx hg HB.out); have NE := am (show b ≠ g ∧ w1.heap.size ≠ g by rw [hg]; have := HZ.out; have := HZR.out.2; exact ⟨by omega, by omega⟩); have BK := am hbox; replace HRG := am (RG_below HRG.out hb); replace HB := am (below_step HB.out hb); clear hb hbox hg; obtain ⟨d0, d1, d2, d3⟩ := bxB BK)
     | ((with_reducible refine gate_store (t := 70) (p := 9) rfl ?_); refine store_event (t := 70) (p := 9) (v := ?vo) (w1 := ((w16.setCell ⟨g, 0, none⟩ (.string a0)).setCell ⟨g, 1, none⟩ (.string b0))) ?hg ?ho ?hn ?hr ?_; (case ho => rfl); (case hg => rfl); (case hn => rfl); (case hr => first | (go_simp; done) | (go_simp; rfl)); intro w17 hw; have n0_ : Aside0 (w17.heap[g]? = some (.cells #[.string a0, .string b0] 70 (0, 0))) := ⟨by rw [hw]; exact kBk⟩; have n1_ := am (show w17.ranges Tryz.prog 9 pairElem b w1.heap.size (l0.length + l1.length) D _ cnt1 by rw [hw]; exact RG_set (RG_set HRG.out NE.out.1 NE.out.2 _) NE.out.1 NE.out.2 _); replace HB := am (show Below w.heap.size w w17 by rw [hw]; exact below_set (below_set HB.out GE.out) GE.out); clear hw HRG BK; have BK := n0_; have HRG := n1_; clear n0_ n1_; obtain ⟨d4, d5, d6, d7⟩ := bxB BK)
     | (go_at_call 41; refine (version_Cmp.calls k b0 a0 cc _ _ HCM.out).mono ?_; rintro _ w18 ⟨rfl, hb⟩; replace HRG := am (RG_below HRG.out hb); replace HB := am (below_step HB.out hb); clear hb))
    go_ret2
    exact ⟨rfl, HB.out⟩
 ·intro hc0 hl0
  clear hrg
  have hr : r0 = true := HA.out.2 (fun p hp => HX.out p hp (hl0 _))
  subst hr
  clear hc0 hl0 HX HL HR
  go_wp2
  go_ret2
  exact ⟨rfl, HB.out⟩

end Go.Proofs.YtknmfmedklfepaaGreatDoor.P
