-- Written by this project's own program (wip/tools/hp.py), driving the kit's print; hand texts among it. Not trusted: Lean checks it.
-- half the indentation
import Derived.Test.YtknmfmedklfepaaGreatDoorReg
import Derived.Test.YtknmfmedklfepaaGreatDoorP0
import Derived.Test.YtknmfmedklfepaaGreatDoorP16
import Derived.Test.YtknmfmedklfepaaGreatDoorP27
import Derived.Test.YtknmfmedklfepaaGreatDoorP28
import Derived.Test.YtknmfmedklfepaaGreatDoorP29
namespace Go.Proofs.YtknmfmedklfepaaGreatDoor.P
open Go.RowKit Go.Proofs.YtknmfmedklfepaaGreatDoorW.PrintWords Go.Proofs.YtknmfmedklfepaaGreatDoorW.PrintLast Go.Proofs.YtknmfmedklfepaaGreatDoorW.PrintMore
attribute [local go_sem] max2_int min2_int max_two min_two max_three min_three max_four min_four   -- for this text's walks alone
set_option linter.unusedVariables false
set_option linter.unusedSimpArgs false

/-! ### HAND list_Delta -/
/-! #### the versions of each path, in two lists -/
/-- A path's version in a list: the last one that is told. -/
def lastL (p : ByteArray) (l : List S55) : ByteArray := l.foldl (fun v n => if n.f0 = p then n.f1 else v) ⟨#[]⟩
theorem lastL_snoc (p : ByteArray) (l : List S55) (n : S55) : lastL p (l ++ [n]) = if n.f0 = p then n.f1 else lastL p l := by unfold lastL; rw [List.foldl_append]; rfl
def keyS (p : ByteArray) : Lit := .string p.data.toList
def pairD (x y : ByteArray) : DataW Unit := .agg [.lit (.string x.data.toList), .lit (.string y.data.toList)]
def pairElem : Value → Option (DataW Unit × List MemPlace)
 | .agg cs => match cs.toList with
  | [.string a, .string b] => some (pairD a b, [])
  | _ => none
 | _ => none
theorem bytes_ext {x y : ByteArray} (h : x.data.toList = y.data.toList) : x = y := by
 cases x; cases y; simp only at h; congr; exact Array.ext' h
theorem pairElem_inv {v : Value} {x y : ByteArray} {ps : List MemPlace} (h : pairElem v = some (pairD x y, ps)) : v = .agg #[.string x, .string y] := by
 unfold pairElem at h
 split at h
 ·rename_i cs
  split at h
  ·rename_i a b e
   simp only [Option.some.injEq, Prod.mk.injEq, pairD, DataW.agg.injEq, List.cons.injEq, DataW.lit.injEq, Lit.string.injEq, and_true] at h
   obtain rfl : cs = #[.string a, .string b] := Array.ext' e
   rw [bytes_ext h.1.1, bytes_ext h.1.2]
  ·cases h
 ·cases h
theorem pairElem_shape {v : Value} {z : DataW Unit × List MemPlace} (h : pairElem v = some z) : ∃ c : ByteArray × ByteArray, v = .agg #[.string c.1, .string c.2] := by
 unfold pairElem at h
 split at h
 ·rename_i cs
  split at h
  ·rename_i a b e
   exact ⟨(a, b), by rw [show cs = #[.string a, .string b] from Array.ext' e]⟩
  ·cases h
 ·cases h
theorem keyed_str : Maps.Keyed Tryz.prog 9 := Maps.string_keyed Tryz.underlying9
theorem key_str {p : ByteArray} (h : p.size ≤ maxLen) : keyOf Tryz.prog 9 (.string p) = some (keyS p) := WideMaps.keyOf_string_mk Tryz.underlying9 h
theorem zero_arr (w : World) : (zeroValue 70).run Tryz.prog w = .ok (.agg #[.string ⟨#[]⟩, .string ⟨#[]⟩]) w := by kernel_rfl
/-- A map tells of two lists each path's version in both. -/
def PM (D : DataW Unit) (a b : List S55) : Prop := Maps.IsMap D ∧ (∀ x : List UInt8, Maps.has D (.string x) = true ↔ ∃ n, n ∈ a ++ b ∧ n.f0.data.toList = x) ∧ ∀ p : ByteArray, D.atKey (keyS p) (pairD ⟨#[]⟩ ⟨#[]⟩) = pairD (lastL p a) (lastL p b)
theorem PM_nil : PM (.map []) [] [] := ⟨⟨[], rfl⟩, fun x => Iff.intro (fun h => by cases h) (fun h => by obtain ⟨n, h, _⟩ := h; cases h), fun p => rfl⟩
theorem PM_put {D : DataW Unit} {a b a' b' : List S55} (h : PM D a b) (p x y : ByteArray) (hp : p.size ≤ maxLen) (hm : ∀ n, n ∈ a' ++ b' ↔ (n ∈ a ++ b ∨ n.f0 = p ∧ n ∈ a' ++ b')) (hin : ∃ n, n ∈ a' ++ b' ∧ n.f0 = p)
  (ha : ∀ q, lastL q a' = if p = q then x else lastL q a) (hb : ∀ q, lastL q b' = if p = q then y else lastL q b) : PM (D.put (keyS p) (pairD x y)) a' b' := by
 obtain ⟨h1, h2, h3⟩ := h
 have hk : WideAt.IsKeyLit (keyS p) := keyed_str.key (key_str hp)
 refine ⟨h1.put _ _, fun z => ?_, fun q => ?_⟩
 ·by_cases e : z = p.data.toList
  ·subst e
   rw [show (Lit.string p.data.toList) = keyS p from rfl, Maps.has_put_same h1 hk]
   obtain ⟨n, hn, e⟩ := hin
   exact ⟨fun _ => ⟨n, hn, by rw [e]⟩, fun _ => rfl⟩
  ·rw [Maps.has_put_other (k' := .string z) (k := keyS p) (by unfold keyS; intro h; injection h with h; exact e h), h2]
   constructor
   ·rintro ⟨n, hn, rfl⟩; exact ⟨n, (hm n).2 (.inl hn), rfl⟩
   ·rintro ⟨n, hn, rfl⟩
    rcases (hm n).1 hn with h | ⟨h, _⟩
    ·exact ⟨n, h, rfl⟩
    ·exact absurd (by rw [h]) e
 ·by_cases e : p = q
  ·subst e
   rw [Maps.atKey_put_same h1 hk, ha, hb, if_pos rfl, if_pos rfl]
  ·rw [Maps.atKey_put_other (k' := keyS q) (k := keyS p) (by unfold keyS; intro h; injection h with h; exact e (bytes_ext h.symm)), h3, ha, hb, if_neg e, if_neg e]
theorem PM_old {D : DataW Unit} {a : List S55} (h : PM D a []) (n : S55) (hp : n.f0.size ≤ maxLen) : PM (D.put (keyS n.f0) (pairD n.f1 (lastL n.f0 []))) (a ++ [n]) [] := by
 refine PM_put h n.f0 n.f1 _ hp (fun m => ?_) ⟨n, by simp, rfl⟩ (fun q => lastL_snoc q a n) (fun q => by split <;> rfl)
 rw [List.append_nil, List.append_nil, List.mem_append, List.mem_singleton]
 exact ⟨fun h => h.elim .inl fun e => .inr ⟨by rw [e], .inr e⟩, fun h => h.elim .inl fun e => e.2⟩
theorem PM_new {D : DataW Unit} {a b : List S55} (h : PM D a b) (n : S55) (hp : n.f0.size ≤ maxLen) : PM (D.put (keyS n.f0) (pairD (lastL n.f0 a) n.f1)) a (b ++ [n]) := by
 refine PM_put h n.f0 _ n.f1 hp (fun m => ?_) ⟨n, by simp, rfl⟩ (fun q => ?_) (fun q => lastL_snoc q b n)
 ·rw [← List.append_assoc, List.mem_append, List.mem_singleton]
  exact ⟨fun h => h.elim .inl fun e => .inr ⟨by rw [e], .inr e⟩, fun h => h.elim .inl fun e => e.2⟩
 ·by_cases e : n.f0 = q
  ·rw [if_pos e, e]
  ·rw [if_neg e]
/-- Block m of w is such a map of at most n paths. -/
def PO (w : World) (m n : Nat) (a b : List S55) : Prop := ∃ D : DataW Unit, w.ownsMap Tryz.prog 9 pairElem m n D ∧ PM D a b
section
variable {w w' : World} {m n : Nat} {a b : List S55}
theorem PO_same (h : PO w m n a b) (hb : w'.heap[m]? = w.heap[m]?) : PO w' m n a b := by
 obtain ⟨D, ⟨es, clock, h1, h2⟩, h3⟩ := h
 exact ⟨D, ⟨es, clock, hb.trans h1, h2⟩, h3⟩
theorem PO_lt (h : PO w m n a b) : m < w.heap.size := by obtain ⟨D, h, _⟩ := h; exact h.lt
theorem PO_below (h : PO w m n a b) (hb : Below w.heap.size w w') : PO w' m n a b := PO_same h (hb.block m (PO_lt h))
theorem PO_set (h : PO w m n a b) {p : Addr} (hp : m ≠ p.block) (u : Value) : PO (w.setCell p u) m n a b := PO_same h (Below.heap_setCell w p u m hp)
theorem PO_mono (h : PO w m n a b) {n' : Nat} (hn : n ≤ n') : PO w m n' a b := by obtain ⟨D, h, h2⟩ := h; exact ⟨D, h.mono hn, h2⟩
theorem PO_made (w : World) : PO (w.alloc (.map #[] 0)) w.heap.size 0 [] [] := ⟨.map [], World.ownsMap_made _ _ _ _, PM_nil⟩
end
/-- 'm[p]' in the walk. -/
theorem wpList_lookup_pair {w : World} {ops : Array Oper} {rest : List Oper} {o : Oper} {a : Act} {Q : Exit → Act → World → Prop} (hg : o.guard = none) (m x : Operand) (hop : o.op = Op.lookup 67 m x false) (b n : Nat) (la lb : List S55)
  (hm : a.eval m = .map (some b)) (hown : PO w b n la lb) (p : ByteArray) (hx : a.eval x = .string p) (hp : p.size ≤ maxLen)
  (hK : wpList Tryz.prog ops Q rest (a.put o.dst (.agg #[.string (lastL p la), .string (lastL p lb)])) w) : wpList Tryz.prog ops Q (o :: rest) a w := by
 obtain ⟨D, hD, hM⟩ := hown
 refine wpList_plain hg fun K' hK' => ?_
 obtain ⟨v, ps, hrun, hv⟩ := hD.lookup keyed_str Tryz.underlying67 (zero_arr w) (zd := pairD ⟨#[]⟩ ⟨#[]⟩) (zp := []) rfl (key_str hp)
 rw [hM.2.2 p] at hv
 obtain rfl := pairElem_inv hv
 unfold Oper.wp
 simp [execOp, hop, hm, hx, hrun, Result.andThen]
 exact hK' _ _ hK
/-- 'm[p] = v' in the walk. -/
theorem wpList_update_pair {w : World} {ops : Array Oper} {rest : List Oper} {o : Oper} {a : Act} {Q : Exit → Act → World → Prop} (hg : o.guard = none) (m x v : Operand) (hop : o.op = Op.mapUpdate 67 m x v) (b n : Nat) (la lb la' lb' : List S55)
  (hm : a.eval m = .map (some b)) (hown : PO w b n la lb) (hn : n < maxLen) (p u1 u2 : ByteArray) (hx : a.eval x = .string p) (hv : a.eval v = .agg #[.string u1, .string u2]) (hp : p.size ≤ maxLen) (hPM : ∀ D, PM D la lb → PM (D.put (keyS p) (pairD u1 u2)) la' lb')
  (hK : ∀ w', PO w' b (n + 1) la' lb' → w.grownBy w' (some b) → wpList Tryz.prog ops Q rest (a.put o.dst undef) w') : wpList Tryz.prog ops Q (o :: rest) a w := by
 obtain ⟨D, hD, hM⟩ := hown
 exact wpList_mapUpdate_own w hg m x v 67 hop 9 70 keyed_str Tryz.underlying67 pairElem b n D hm hD hn _ _ _ hx hv (key_str hp) (pairD u1 u2) [] rfl (fun w' h1 h2 => hK w' ⟨_, h1, hPM D hM⟩ h2)
theorem index0 (A A' : Option Addr) (n n' c c' : Nat) (w : World) : (Instr.index 96 (.agg #[.slice A n c, .slice A' n' c']) (.int .i64 0)).run Tryz.prog w = .ok (.slice A n c) w := by kernel_rfl
theorem index1 (A A' : Option Addr) (n n' c c' : Nat) (w : World) : (Instr.index 96 (.agg #[.slice A n c, .slice A' n' c']) (.int .i64 1)).run Tryz.prog w = .ok (.slice A' n' c') w := by kernel_rfl
def okP (l : List S55) : Bool := decide (l.length ≤ 1000000000) && l.all fun n => decide (n.f0.size ≤ 1000000000)
theorem okP_len {l : List S55} (h : okP l = true) : l.length ≤ 1000000000 := by
 unfold okP at h
 rw [Bool.and_eq_true, decide_eq_true_eq] at h
 exact h.1
theorem okP_size {l : List S55} (h : okP l = true) {n : S55} (hn : n ∈ l) : n.f0.size ≤ maxLen := by
 unfold okP at h
 rw [Bool.and_eq_true, List.all_eq_true] at h
 have := of_decide_eq_true (h.2 n hn)
 unfold maxLen
 omega
def bothF (k : Nat) (l0 l1 : List S55) : Option Int := if (okP l0 && okP l1) = true then (list_Check.f k l0).bind fun e => (if e = 0 then list_Check.f k l1 else some e) else none
theorem bothF_mono (k : Nat) (l0 l1 : List S55) : LeO (bothF k l0 l1) (bothF (k + 1) l0 l1) := LeO.ite (LeO.bind (list_Check.mono _ _) fun _ => LeO.ite (list_Check.mono _ _) (LeO.refl _)) (LeO.none _)
set_option maxRecDepth 100000 in
set_option maxHeartbeats 8000000 in
theorem both_calls (k : Nat) (A0 : Option Addr) (c0 : Nat) (l0 : List S55) (A1 : Option Addr) (c1 : Nat) (l1 : List S55) (e0 : Int) (w : World) (hr0 : Kd.C k55 w A0 l0.length l0) (hc0 : l0.length ≤ c0) (hr1 : Kd.C k55 w A1 l1.length l1) (hc1 : l1.length ≤ c1) (h : bothF k l0 l1 = some e0) :
  Calls Tryz.prog 40 #[.slice A0 l0.length c0, .slice A1 l1.length c1] w fun e w' => ∃ m : Option Nat, e = .returned (.tuple #[.map m, .int .i64 e0]) ∧ Below w.heap.size w w' ∧ (e0 = 0 → ∃ b, m = some b ∧ w.heap.size ≤ b ∧ PO w' b (l0.length + l1.length) l0 l1) := by
 unfold bothF at h
 replace h := ifN h
 obtain ⟨hok, h⟩ := h
 rw [Bool.and_eq_true] at hok
 obtain ⟨e, he, h⟩ := bnd h
 have HR0 := am hr0
 have HC0 := am hc0
 have HR1 := am hr1
 have HC1 := am hc1
 have HO0 := am hok.1
 have HO1 := am hok.2
 have HE := he
 have H := am h
 have HB := am (Below.refl w.heap.size w)
 have hmm := @run_makeMap Tryz.prog
 have huN := Tryz.underlying55
 have huM := Tryz.underlying67
 have huA := Tryz.underlying70
 have huB := Tryz.underlying96
 have hi0 := index0 A0 A1 l0.length l1.length c0 c1
 have hi1 := index1 A0 A1 l0.length l1.length c0 c1
 clear hr0 hc0 hr1 hc1 hok he h
 go_enter Tryz.func40, Tryz.ntmps40
 go_wp2
 obtain ⟨mb, hmb⟩ : ∃ mb, mb = w.heap.size := ⟨_, rfl⟩
 have HM := am (PO_made w)
 have HBn := am (below_alloc HB.out (.map #[] 0))
 clear HB
 have HB := HBn
 clear HBn
 have GW : Aside0 (w.heap.size ≤ w.heap.size) := ⟨Nat.le_refl _⟩
 generalize w.alloc (.map #[] 0) = wm at HB HM ⊢
 go_loopw [17] (fun v17 wr => Aside0 (Below w.heap.size w wr) ∧ ((v17 = .int .i64 0 ∧ Aside0 (PO wr w.heap.size 0 [] [])) ∨ (v17 = .int .i64 1 ∧ Aside0 (e = 0) ∧ Aside0 (PO wr w.heap.size l0.length l0 [])) ∨ (v17 = .int .i64 2 ∧ Aside0 (e0 = 0) ∧ Aside0 (PO wr w.heap.size (l0.length + l1.length) l0 l1)))) (fun v17 _ => 2 - (intOf v17).toNat)
 case atStart => exact ⟨HB, .inl ⟨rfl, HM⟩⟩
 case round =>
  clear HB HM
  obtain ⟨HB, ⟨rfl, HM⟩ | ⟨rfl, HE0, HM⟩ | ⟨rfl, HE0, HM⟩⟩ := hrel
  ·by_cases h0 : e = 0
   case neg =>
    have h := H.out
    rw [if_neg h0] at h
    obtain rfl := Option.some.inj h
    have d0 : (e != 0) = true := bne_iff_ne.mpr h0
    have HN := am h0
    clear h0 h H
    go_wp2_with (first | (go_at_call 12; refine (list_Check.calls k _ _ l0 e _ (Kd.C_below HR0.out HB.out) HC0.out HE.out).mono ?_; rintro _ w1 ⟨rfl, hb⟩; replace HB := am (below_step HB.out hb); clear hb))
    go_ret2
    exact ⟨_, rfl, HB.out, fun h => absurd h HN.out⟩
   subst h0
   have d0 : ((0 : Int) != 0) = false := rfl
   go_wp2_with (first | (go_at_call 12; refine (list_Check.calls k _ _ l0 0 _ (Kd.C_below HR0.out HB.out) HC0.out HE.out).mono ?_; rintro _ w1 ⟨rfl, hb⟩; replace HM := am (PO_below HM.out hb); replace HB := am (below_step HB.out hb); clear hb))
   go_loopw [28] (fun v28 wr => ∃ (j : Nat) (jv : Int), j ≤ l0.length ∧ jv = (j : Int) ∧ v28 = .int .i64 jv ∧ Aside0 (PO wr w.heap.size (j) (l0.take j) []) ∧ Aside0 (Below w.heap.size w wr)) (fun v28 _ => l0.length - (intOf v28).toNat)
   case atStart => exact ⟨0, 0, by omega, rfl, rfl, by simpa using HM, HB⟩
   case round =>
    clear HB HM
    obtain ⟨j, jv, hj, hjv, rfl, HM, HB⟩ := hrel
    by_cases hlt : j < l0.length
    case neg =>
     have hnl : ¬ (jv < (l0.length : Int)) := by omega
     have hM := HM.out
     rw [List.take_of_length_le (by omega)] at hM
     have HM := am (PO_mono (n' := l0.length) hM (by omega))
     clear hM
     go_wp2
     refine ⟨?rel, ?measure⟩
     case measure => decide
     case rel => exact ⟨HB, .inr (.inl ⟨rfl, ⟨trivial⟩, HM⟩)⟩
    case pos =>
     have p0 := eq_true (show (0 : Int) ≤ jv by omega)
     have q0 := eq_true (show jv < (l0.length : Int) by omega)
     have hl63 : l0.length ≤ 9223372036854775807 := by have := okP_len HO0.out; omega
     obtain ⟨ad, ead, hx0, hx1⟩ := at_T55 (Kd.C_below HR0.out HB.out) jv (by omega) (by omega)
     cases ead
     have hrd : rd_T55 l0 jv = l0[j] := by rw [hjv]; simp [rd_T55, List.getD_eq_getElem?_getD, hlt]
     obtain ⟨nd, hnd⟩ : ∃ nd, nd = l0[j] := ⟨_, rfl⟩
     rw [hrd, ← hnd] at hx0 hx1
     have HSZ := am (show nd.f0.size ≤ maxLen by rw [hnd]; exact okP_size HO0.out (List.getElem_mem hlt))
     have HTK := am (show l0.take (j + 1) = l0.take j ++ [nd] by rw [List.take_succ_eq_append_getElem hlt, hnd])
     have Hjv := am hjv
     have Hlt := am hlt
     clear hnd hrd hjv hlt hj
     go_wp2_with (first
      | ((with_reducible refine gtD 11 ?_); refine xBx 11 55 #[.string ⟨#[]⟩, .string ⟨#[]⟩] ?_; intro g1 hg w9 hbox hb; have GE1 := am (gTx hg HB.out); have NE1 := am (show w.heap.size ≠ g1 by rw [hg]; exact Nat.ne_of_lt (PO_lt HM.out)); have BK1 := am hbox; replace HM := am (PO_below HM.out hb); replace HB := am (below_step HB.out hb); clear hb hbox hg; obtain ⟨b0, b1, b2, b3⟩ := bxB BK1)
      | ((with_reducible refine gate_store (t := 55) (p := 11) rfl ?_); refine store_event (t := 55) (p := 11) (v := ?vo) (w1 := ((w9.setCell ⟨g1, 0, none⟩ (.string nd.f0)).setCell ⟨g1, 1, none⟩ (.string nd.f1))) ?hg ?ho ?hn ?hr ?_; (case ho => rfl); (case hg => rfl); (case hn => rfl); (case hr => first | (go_simp; done) | (go_simp; rfl)); intro w10 hw; have n0_ : Aside0 (w10.heap[g1]? = some (.cells #[.string nd.f0, .string nd.f1] 55 (0, 0))) := ⟨by rw [hw]; exact kBk⟩; have n1_ := am (show PO w10 w.heap.size (j) (l0.take j) [] by rw [hw]; exact PO_set (PO_set HM.out NE1.out _) NE1.out _); replace HB := am (show Below w.heap.size w w10 by rw [hw]; exact below_set (below_set HB.out GE1.out) GE1.out); clear hw HM BK1; have BK1 := n0_; have HM := n1_; clear n0_ n1_; obtain ⟨b4, b5, b6, b7⟩ := bxB BK1)
      | (at_lookup; refine wpList_lookup_pair rfl _ _ rfl w.heap.size _ (l0.take j) [] rfl HM.out nd.f0 rfl HSZ.out ?_)
      | ((with_reducible refine gtD 12 ?_); refine xBx 12 70 #[.string ⟨#[]⟩, .string ⟨#[]⟩] ?_; intro g2 hg w11 hbox hb; have GE2 := am (gTx hg HB.out); have NE2 := am (show w.heap.size ≠ g2 by rw [hg]; exact Nat.ne_of_lt (PO_lt HM.out)); have N12 := am (nT BK1.out hg); have BK2 := am hbox; replace HM := am (PO_below HM.out hb); replace BK1 := am (blk_below BK1.out hb); replace HB := am (below_step HB.out hb); clear hb hbox hg; obtain ⟨d0, d1, d2, d3⟩ := bxB BK2; obtain ⟨f0, f1, f2, f3⟩ := bxB BK1; have n12 := N12.out; have n21 := N12.out.symm)
      | ((with_reducible refine gate_store (t := 70) (p := 12) rfl ?_); go_loud (refine store_event (t := 70) (p := 12) (v := ?vp) (w1 := ((w11.setCell ⟨g2, 0, none⟩ (.string (lastL nd.f0 (l0.take j)))).setCell ⟨g2, 1, none⟩ (.string (lastL nd.f0 [])))) ?hg ?ho ?hn ?hr ?_; (case ho => rfl); (case hg => rfl); (case hn => rfl); (case hr => first | (go_simp; done) | (go_simp; rfl)); intro w12 hw; have n0_ : Aside0 (w12.heap[g2]? = some (.cells #[.string (lastL nd.f0 (l0.take j)), .string (lastL nd.f0 [])] 70 (0, 0))) := ⟨by rw [hw]; exact kBk⟩; have n2_ : Aside0 (w12.heap[g1]? = some (.cells #[.string nd.f0, .string nd.f1] 55 (0, 0))) := ⟨by rw [hw]; exact kBk⟩; have n1_ := am (show PO w12 w.heap.size (j) (l0.take j) [] by rw [hw]; exact PO_set (PO_set HM.out NE2.out _) NE2.out _); replace HB := am (show Below w.heap.size w w12 by rw [hw]; exact below_set (below_set HB.out GE2.out) GE2.out); clear hw HM BK2 BK1; have BK2 := n0_; have BK1 := n2_; have HM := n1_; clear n0_ n1_ n2_; obtain ⟨d4, d5, d6, d7⟩ := bxB BK2; obtain ⟨f4, f5, f6, f7⟩ := bxB BK1))
      | (at_mapUpdate; go_loud (refine wpList_update_pair rfl _ _ _ rfl w.heap.size (j) (l0.take j) [] (l0.take j ++ [nd]) [] rfl (PO_set HM.out NE2.out _) (by have := okP_len HO0.out; have := okP_len HO1.out; have := Hlt.out; unfold maxLen; omega) nd.f0 nd.f1 (lastL nd.f0 []) rfl rfl HSZ.out (fun D h => PM_old h nd HSZ.out) ?_; intro w12 hM3 hg3; have HM3 := am hM3; have HBc := am (below_set HB.out GE2.out (j := 0) (v := .string nd.f1)); replace HB := am (pw_below_grown HBc.out _ (below_size HBc.out) hg3 (fun k_ hk_ => by cases hk_; exact Nat.le_refl _)); clear hM3 hg3 HBc)))
     refine ⟨?rel, ?measure⟩
     case measure =>
      show l0.length - (wrap64 (jv + 1)).toNat < l0.length - jv.toNat
      have := Hjv.out
      have := Hlt.out
      have := okP_len HO0.out
      unfold wrap64
      omega
     case rel =>
      have hw1 : wrap64 (jv + 1) = ((j + 1 : Nat) : Int) := by have := Hjv.out; have := Hlt.out; have := okP_len HO0.out; unfold wrap64; omega
      exact ⟨j + 1, wrap64 (jv + 1), by have := Hlt.out; omega, hw1, rfl, ⟨by rw [HTK.out]; exact HM3.out⟩, HB⟩
  ·obtain rfl := HE0.out
   have h := H.out
   rw [if_pos rfl] at h
   have HF := am h
   clear h HE0
   by_cases h0 : e0 = 0
   case neg =>
    have d0 : (e0 != 0) = true := bne_iff_ne.mpr h0
    have HN := am h0
    clear h0 H
    go_wp2_with (first | (go_at_call 12; refine (list_Check.calls k _ _ l1 e0 _ (Kd.C_below HR1.out HB.out) HC1.out HF.out).mono ?_; rintro _ w1 ⟨rfl, hb⟩; replace HB := am (below_step HB.out hb); clear hb))
    go_ret2
    exact ⟨_, rfl, HB.out, fun h => absurd h HN.out⟩
   subst h0
   go_wp2_with (first | (go_at_call 12; refine (list_Check.calls k _ _ l1 0 _ (Kd.C_below HR1.out HB.out) HC1.out HF.out).mono ?_; rintro _ w1 ⟨rfl, hb⟩; replace HM := am (PO_below HM.out hb); replace HB := am (below_step HB.out hb); clear hb))
   go_loopw [28] (fun v28 wr => ∃ (j : Nat) (jv : Int), j ≤ l1.length ∧ jv = (j : Int) ∧ v28 = .int .i64 jv ∧ Aside0 (PO wr w.heap.size (l0.length + j) l0 (l1.take j)) ∧ Aside0 (Below w.heap.size w wr)) (fun v28 _ => l1.length - (intOf v28).toNat)
   case atStart => exact ⟨0, 0, by omega, rfl, rfl, by simpa using HM, HB⟩
   case round =>
    clear HB HM
    obtain ⟨j, jv, hj, hjv, rfl, HM, HB⟩ := hrel
    by_cases hlt : j < l1.length
    case neg =>
     have hnl : ¬ (jv < (l1.length : Int)) := by omega
     have hM := HM.out
     rw [List.take_of_length_le (by omega)] at hM
     have HM := am (PO_mono (n' := l0.length + l1.length) hM (by omega))
     clear hM
     go_wp2
     refine ⟨?rel, ?measure⟩
     case measure => decide
     case rel => exact ⟨HB, .inr (.inr ⟨rfl, ⟨trivial⟩, HM⟩)⟩
    case pos =>
     have p0 := eq_true (show (0 : Int) ≤ jv by omega)
     have q0 := eq_true (show jv < (l1.length : Int) by omega)
     have hl63 : l1.length ≤ 9223372036854775807 := by have := okP_len HO1.out; omega
     obtain ⟨ad, ead, hx0, hx1⟩ := at_T55 (Kd.C_below HR1.out HB.out) jv (by omega) (by omega)
     cases ead
     have hrd : rd_T55 l1 jv = l1[j] := by rw [hjv]; simp [rd_T55, List.getD_eq_getElem?_getD, hlt]
     obtain ⟨nd, hnd⟩ : ∃ nd, nd = l1[j] := ⟨_, rfl⟩
     rw [hrd, ← hnd] at hx0 hx1
     have HSZ := am (show nd.f0.size ≤ maxLen by rw [hnd]; exact okP_size HO1.out (List.getElem_mem hlt))
     have HTK := am (show l1.take (j + 1) = l1.take j ++ [nd] by rw [List.take_succ_eq_append_getElem hlt, hnd])
     have Hjv := am hjv
     have Hlt := am hlt
     clear hnd hrd hjv hlt hj
     go_wp2_with (first
      | ((with_reducible refine gtD 11 ?_); refine xBx 11 55 #[.string ⟨#[]⟩, .string ⟨#[]⟩] ?_; intro g1 hg w9 hbox hb; have GE1 := am (gTx hg HB.out); have NE1 := am (show w.heap.size ≠ g1 by rw [hg]; exact Nat.ne_of_lt (PO_lt HM.out)); have BK1 := am hbox; replace HM := am (PO_below HM.out hb); replace HB := am (below_step HB.out hb); clear hb hbox hg; obtain ⟨b0, b1, b2, b3⟩ := bxB BK1)
      | ((with_reducible refine gate_store (t := 55) (p := 11) rfl ?_); refine store_event (t := 55) (p := 11) (v := ?vo) (w1 := ((w9.setCell ⟨g1, 0, none⟩ (.string nd.f0)).setCell ⟨g1, 1, none⟩ (.string nd.f1))) ?hg ?ho ?hn ?hr ?_; (case ho => rfl); (case hg => rfl); (case hn => rfl); (case hr => first | (go_simp; done) | (go_simp; rfl)); intro w10 hw; have n0_ : Aside0 (w10.heap[g1]? = some (.cells #[.string nd.f0, .string nd.f1] 55 (0, 0))) := ⟨by rw [hw]; exact kBk⟩; have n1_ := am (show PO w10 w.heap.size (l0.length + j) l0 (l1.take j) by rw [hw]; exact PO_set (PO_set HM.out NE1.out _) NE1.out _); replace HB := am (show Below w.heap.size w w10 by rw [hw]; exact below_set (below_set HB.out GE1.out) GE1.out); clear hw HM BK1; have BK1 := n0_; have HM := n1_; clear n0_ n1_; obtain ⟨b4, b5, b6, b7⟩ := bxB BK1)
      | (at_lookup; refine wpList_lookup_pair rfl _ _ rfl w.heap.size _ l0 (l1.take j) rfl HM.out nd.f0 rfl HSZ.out ?_)
      | ((with_reducible refine gtD 12 ?_); refine xBx 12 70 #[.string ⟨#[]⟩, .string ⟨#[]⟩] ?_; intro g2 hg w11 hbox hb; have GE2 := am (gTx hg HB.out); have NE2 := am (show w.heap.size ≠ g2 by rw [hg]; exact Nat.ne_of_lt (PO_lt HM.out)); have N12 := am (nT BK1.out hg); have BK2 := am hbox; replace HM := am (PO_below HM.out hb); replace BK1 := am (blk_below BK1.out hb); replace HB := am (below_step HB.out hb); clear hb hbox hg; obtain ⟨d0, d1, d2, d3⟩ := bxB BK2; obtain ⟨f0, f1, f2, f3⟩ := bxB BK1; have n12 := N12.out; have n21 := N12.out.symm)
      | ((with_reducible refine gate_store (t := 70) (p := 12) rfl ?_); go_loud (refine store_event (t := 70) (p := 12) (v := ?vp) (w1 := ((w11.setCell ⟨g2, 0, none⟩ (.string (lastL nd.f0 l0))).setCell ⟨g2, 1, none⟩ (.string (lastL nd.f0 (l1.take j))))) ?hg ?ho ?hn ?hr ?_; (case ho => rfl); (case hg => rfl); (case hn => rfl); (case hr => first | (go_simp; done) | (go_simp; rfl)); intro w12 hw; have n0_ : Aside0 (w12.heap[g2]? = some (.cells #[.string (lastL nd.f0 l0), .string (lastL nd.f0 (l1.take j))] 70 (0, 0))) := ⟨by rw [hw]; exact kBk⟩; have n2_ : Aside0 (w12.heap[g1]? = some (.cells #[.string nd.f0, .string nd.f1] 55 (0, 0))) := ⟨by rw [hw]; exact kBk⟩; have n1_ := am (show PO w12 w.heap.size (l0.length + j) l0 (l1.take j) by rw [hw]; exact PO_set (PO_set HM.out NE2.out _) NE2.out _); replace HB := am (show Below w.heap.size w w12 by rw [hw]; exact below_set (below_set HB.out GE2.out) GE2.out); clear hw HM BK2 BK1; have BK2 := n0_; have BK1 := n2_; have HM := n1_; clear n0_ n1_ n2_; obtain ⟨d4, d5, d6, d7⟩ := bxB BK2; obtain ⟨f4, f5, f6, f7⟩ := bxB BK1))
      | (at_mapUpdate; go_loud (refine wpList_update_pair rfl _ _ _ rfl w.heap.size (l0.length + j) l0 (l1.take j) l0 (l1.take j ++ [nd]) rfl (PO_set HM.out NE2.out _) (by have := okP_len HO0.out; have := okP_len HO1.out; have := Hlt.out; unfold maxLen; omega) nd.f0 (lastL nd.f0 l0) nd.f1 rfl rfl HSZ.out (fun D h => PM_new h nd HSZ.out) ?_; intro w12 hM3 hg3; have HM3 := am hM3; have HBc := am (below_set HB.out GE2.out (j := 1) (v := .string nd.f1)); replace HB := am (pw_below_grown HBc.out _ (below_size HBc.out) hg3 (fun k_ hk_ => by cases hk_; exact Nat.le_refl _)); clear hM3 hg3 HBc)))
     refine ⟨?rel, ?measure⟩
     case measure =>
      show l1.length - (wrap64 (jv + 1)).toNat < l1.length - jv.toNat
      have := Hjv.out
      have := Hlt.out
      have := okP_len HO1.out
      unfold wrap64
      omega
     case rel =>
      have hw1 : wrap64 (jv + 1) = ((j + 1 : Nat) : Int) := by have := Hjv.out; have := Hlt.out; have := okP_len HO1.out; unfold wrap64; omega
      exact ⟨j + 1, wrap64 (jv + 1), by have := Hlt.out; omega, hw1, rfl, ⟨by rw [HTK.out]; exact HM3.out⟩, HB⟩
  ·obtain rfl := HE0.out
   go_wp2
   go_ret2
   exact ⟨_, rfl, HB.out, w.heap.size, rfl, Nat.le_refl _, HM.out⟩
/-! #### paths in order -/
def ltP (p q : ByteArray) : Prop := p.data.toList < q.data.toList
theorem cmpP_if (p q : ByteArray) : cmpP p q = if p.data.toList < q.data.toList then -1 else if q.data.toList < p.data.toList then 1 else 0 := by
 unfold cmpP
 simp only [bytesLess_eq, Lib.toList_data, decide_eq_true_eq]
theorem cmpP_lt (p q : ByteArray) : cmpP p q < 0 ↔ ltP p q := by
 rw [cmpP_if]
 unfold ltP
 by_cases h : p.data.toList < q.data.toList
 ·simp [h]
 ·by_cases h2 : q.data.toList < p.data.toList <;> simp [h, h2]
theorem cmpP_zero (p q : ByteArray) : cmpP p q = 0 ↔ p = q := by
 rw [cmpP_if]
 by_cases h : p.data.toList < q.data.toList
 ·rw [if_pos h]
  exact ⟨fun e => absurd e (by decide), fun e => by subst e; exact absurd h (List.lt_irrefl _)⟩
 ·rw [if_neg h]
  by_cases h2 : q.data.toList < p.data.toList
  ·rw [if_pos h2]
   exact ⟨fun e => absurd e (by decide), fun e => by subst e; exact absurd h2 (List.lt_irrefl _)⟩
  ·rw [if_neg h2]
   exact ⟨fun _ => bytes_ext (List.le_antisymm h2 h), fun _ => rfl⟩
theorem ltP_trans {p q r : ByteArray} (h : ltP p q) (h' : ltP q r) : ltP p r := List.lt_trans h h'
theorem ltP_tri {p q : ByteArray} (h : ¬ ltP p q) (h' : p ≠ q) : ltP q p := Classical.byContradiction fun h2 => h' (bytes_ext (List.le_antisymm h2 h))
def insP (p : ByteArray) : List ByteArray → List ByteArray
 | [] => [p]
 | q :: l => if cmpP q p < 0 then q :: insP p l else if q = p then q :: l else p :: q :: l
/-- The paths of nodes, in order, each once. -/
def pathsL (l : List S55) : List ByteArray := l.foldl (fun a n => insP n.f0 a) []
theorem insP_mem (p x : ByteArray) : ∀ l, x ∈ insP p l ↔ x = p ∨ x ∈ l
 | [] => by simp [insP]
 | q :: l => by
  unfold insP
  split
  ·rw [List.mem_cons, insP_mem p x l, List.mem_cons]
   exact ⟨fun h => h.elim (fun h => .inr (.inl h)) (fun h => h.elim .inl fun h => .inr (.inr h)), fun h => h.elim (fun h => .inr (.inl h)) (fun h => h.elim .inl fun h => .inr (.inr h))⟩
  ·split
   ·rename_i e
    subst e
    exact ⟨fun h => .inr h, fun h => h.elim (fun h => by rw [h]; exact List.mem_cons_self) id⟩
   ·rw [List.mem_cons]
theorem insP_sorted (p : ByteArray) : ∀ l : List ByteArray, l.Pairwise ltP → (insP p l).Pairwise ltP
 | [], _ => List.pairwise_singleton _ _
 | q :: l, h => by
  obtain ⟨h1, h2⟩ := List.pairwise_cons.1 h
  unfold insP
  split
  ·rename_i hc
   refine List.pairwise_cons.2 ⟨fun x hx => ?_, insP_sorted p l h2⟩
   rcases (insP_mem p x l).1 hx with rfl | hx
   ·exact (cmpP_lt _ _).1 hc
   ·exact h1 x hx
  ·rename_i hc
   split
   ·exact h
   ·rename_i hne
    have hlt := ltP_tri (fun h => hc ((cmpP_lt _ _).2 h)) hne
    refine List.pairwise_cons.2 ⟨fun x hx => ?_, h⟩
    rcases List.mem_cons.1 hx with rfl | hx
    ·exact hlt
    ·exact ltP_trans hlt (h1 x hx)
theorem insP_len (p : ByteArray) : ∀ l : List ByteArray, (insP p l).length ≤ l.length + 1
 | [] => Nat.le_refl _
 | q :: l => by
  unfold insP
  have := insP_len p l
  split
  ·simp only [List.length_cons]; omega
  ·split <;> simp only [List.length_cons] <;> omega
theorem paths_foldl : ∀ (l : List S55) (a : List ByteArray), a.Pairwise ltP → (l.foldl (fun a n => insP n.f0 a) a).Pairwise ltP ∧ (∀ x, x ∈ l.foldl (fun a n => insP n.f0 a) a ↔ x ∈ a ∨ ∃ n, n ∈ l ∧ n.f0 = x) ∧ (l.foldl (fun a n => insP n.f0 a) a).length ≤ a.length + l.length
 | [], a, h => ⟨h, fun x => by simp, by simp⟩
 | n :: l, a, h => by
  obtain ⟨h1, h2, h3⟩ := paths_foldl l (insP n.f0 a) (insP_sorted _ _ h)
  refine ⟨h1, fun x => ?_, ?_⟩
  ·rw [List.foldl_cons, h2, insP_mem]
   constructor
   ·rintro ((rfl | h) | ⟨m, hm, rfl⟩)
    ·exact .inr ⟨n, List.mem_cons_self, rfl⟩
    ·exact .inl h
    ·exact .inr ⟨m, List.mem_cons_of_mem _ hm, rfl⟩
   ·rintro (h | ⟨m, hm, rfl⟩)
    ·exact .inl (.inr h)
    ·rcases List.mem_cons.1 hm with rfl | hm
     ·exact .inl (.inl rfl)
     ·exact .inr ⟨m, hm, rfl⟩
  ·rw [List.foldl_cons, List.length_cons]; have := insP_len n.f0 a; omega
theorem pathsL_sorted (l : List S55) : (pathsL l).Pairwise ltP := (paths_foldl l [] List.Pairwise.nil).1
theorem pathsL_mem (l : List S55) (x : ByteArray) : x ∈ pathsL l ↔ ∃ n, n ∈ l ∧ n.f0 = x := by
 rw [pathsL, (paths_foldl l [] List.Pairwise.nil).2.1]; simp
theorem pathsL_len (l : List S55) : (pathsL l).length ≤ l.length := by
 have := (paths_foldl l [] List.Pairwise.nil).2.2
 simpa [pathsL] using this
theorem str_reps {w : World} {base : Nat} {ok : Nat → Prop} (xs : List ByteArray) : Reps (Kd.M Kd.string w base ok) 1 xs (xs.map fun x => .string x) := by
 refine ⟨by simp, fun j p hj => ?_⟩
 rw [Nat.mul_one, ← List.map_drop, ← List.map_take]
 have hlt := (List.getElem?_eq_some_iff.1 hj).1
 have hx := (List.getElem?_eq_some_iff.1 hj).2
 rw [List.drop_eq_getElem_cons hlt, hx]
 rfl
open Go.Maps Go.Sort Go.Shelf in
theorem sorts_str (m : Nat) : AnyZ.SortsIn Tryz.prog Tryz.sortedA_ren Fence.wide m :=
 ⟨fun blk off cap ss W hH hblk hsz => callsIn_wide.2 (AnyM.slices_Sort_string Tryz.sortA blk off cap ss W hH hblk hsz),
  fun p cap W => callsIn_wide.2 (AnyM.slices_Sort_string_none Tryz.sortA p cap W)⟩
open Go.Maps Go.Sort Go.Shelf in
/-- maps.Keys(m). -/
theorem keysK_calls (mb : Option Nat) (w : World) : Calls Tryz.prog 44 #[.map mb] w fun e w' => e = .returned (.func (.func 75) #[] #[.pointer (some ⟨w.heap.size, 0, none⟩)]) ∧ w' = w.alloc (.cells #[.map mb] 67) :=
 (callsIn_wide (n := 5)).1 (AnyZ.keys_in Tryz.keysA Fence.wide 5 trivial rfl mb w)
open Go.Maps Go.Sort Go.Shelf in
set_option maxHeartbeats 1000000 in
/-- slices.Sorted of it. -/
theorem sortedS_calls (B b nn : Nat) (la lb : List S55) (w : World) (hBl : B < w.heap.size) (hB : w.cell? ⟨B, 0, none⟩ = some (.map (some b))) (hP : PO w b nn la lb) (hn : nn ≤ 2000000000) :
  Calls Tryz.prog 43 #[.func (.func 75) #[] #[.pointer (some ⟨B, 0, none⟩)]] w fun e w' => ∃ v, e = .returned v ∧ Kd.R Kd.string 9 w' w.heap.size (fun _ => True) v (pathsL (la ++ lb)) ∧ Below w.heap.size w w' := by
 obtain ⟨D, hown, hM⟩ := hP
 have hsz := hown.size_le
 have hseq : SeqGives Fence.wide 2 Tryz.prog 75 #[.pointer (some ⟨B, 0, none⟩)] encStr (fun ss => ss.Perm (strKeys D)) (Maps.size D) w :=
  AnyZ.keys_gives (ρ := Tryz.keysA_ren) { Tryz.keysA with } Fence.wide _ trivial rfl (by omega) B b nn D w hBl hB hown
 have cS := AnyZ.sorted_in Tryz.sortedA Fence.wide 5 trivial trivial trivial trivial rfl (by omega) (sorts_str _) (enters_of Tryz.func74 (by kernel_rfl) rfl) 75 #[.pointer (some ⟨B, 0, none⟩)] trivial (enters_of Tryz.func75 (by kernel_rfl) rfl) _ _ (by unfold maxLen; omega) (by omega) _ hseq
 change CallsIn _ _ Tryz.prog 43 _ _ _ at cS
 refine ((callsIn_wide (n := 5)).1 cS).mono ?_
 rintro e w' ⟨v, ss, rfl, hp, hrow, hnil, hb⟩
 have hr := pathsL_sorted (la ++ lb)
 have hp2 : ((pathsL (la ++ lb)).map fun p => p.data.toList).Perm (strKeys D) := Collected.perm (left := fun _ => false)
  ⟨List.pairwise_map.2 (hr.imp fun {a b} h e => by unfold ltP at h; rw [e] at h; exact List.lt_irrefl _ h), fun x => by
   rw [List.mem_map, hM.2.1]
   constructor
   ·rintro ⟨p, hp, rfl⟩
    obtain ⟨n, hn, rfl⟩ := (pathsL_mem _ _).1 hp
    exact ⟨⟨n, hn, rfl⟩, rfl⟩
   ·rintro ⟨⟨n, hn, rfl⟩, -⟩
    exact ⟨n.f0, (pathsL_mem _ _).2 ⟨n, hn, rfl⟩, rfl⟩⟩ hown keyed_str Tryz.underlying9 (fun _ => rfl)
 have hms : ss.mergeSort (fun x y => decide (x ≤ y)) = (pathsL (la ++ lb)).map fun p => p.data.toList := by
  refine (mergeSort_of_perm (hp.trans hp2.symm)).trans ?_
  exact List.mergeSort_of_pairwise (List.pairwise_map.2 (hr.imp fun {a b} h => decide_eq_true (List.le_of_lt h)))
 rw [hms] at hrow
 have hl : ss.length = (pathsL (la ++ lb)).length := by rw [← List.length_mergeSort (le := fun x y => decide (x ≤ y)) ss, hms, List.length_map]
 rw [hl, List.map_map] at hrow
 refine ⟨v, rfl, ⟨fun _ _ => trivial, _, hrow, ?_⟩, hb⟩
 have e : (pathsL (la ++ lb)).map (encStr ∘ fun p => p.data.toList) = (pathsL (la ++ lb)).map fun x => .string x := List.map_congr_left fun x _ => by simp [encStr]
 rw [e]
 exact str_reps _
/-! #### what changes -/
def chgL (l0 l1 : List S55) (p : ByteArray) : Option S75 := if (lastL p l0).toList = (lastL p l1).toList then none else some ⟨p, lastL p l0, lastL p l1⟩
def deltaL (l0 l1 : List S55) : List S75 := (pathsL (l0 ++ l1)).filterMap (chgL l0 l1)
def list_Delta.f (k : Nat) (l0 : List (S55)) (l1 : List (S55)) : Option (List (S75) × Int) := (bothF k l0 l1).bind fun e => if e = 0 then some (deltaL l0 l1, 0) else some ([], e)
theorem list_Delta.mono : ∀ a0 a1 k, LeO (list_Delta.f k a0 a1) (list_Delta.f (k + 1) a0 a1) := fun a b k => LeO.bind (bothF_mono k a b) fun _ => LeO.refl _
theorem bothF_ok {k : Nat} {l0 l1 : List S55} {e : Int} (h : bothF k l0 l1 = some e) : okP l0 = true ∧ okP l1 = true := by
 unfold bothF at h
 replace h := ifN h
 obtain ⟨hok, h⟩ := h
 rw [Bool.and_eq_true] at hok
 exact hok
theorem filterMap_snoc_some {α β : Type} {g : α → Option β} {l : List α} {x : α} {y : β} (h : g x = some y) : (l ++ [x]).filterMap g = l.filterMap g ++ [y] := by rw [List.filterMap_append]; simp [h]
theorem filterMap_snoc_none {α β : Type} {g : α → Option β} {l : List α} {x : α} (h : g x = none) : (l ++ [x]).filterMap g = l.filterMap g := by rw [List.filterMap_append]; simp [h]
set_option maxRecDepth 100000 in
set_option maxHeartbeats 8000000 in
theorem list_Delta.calls (k : Nat) (A0 : Option Addr) (c0 : Nat) (l0 : List (S55)) (A1 : Option Addr) (c1 : Nat) (l1 : List (S55)) (r1 : List (S75)) (r2 : Int) (w : World) (hr0 : Kd.C k55 w A0 l0.length l0) (hc0 : l0.length ≤ c0) (hr1 : Kd.C k55 w A1 l1.length l1) (hc1 : l1.length ≤ c1) (h : list_Delta.f k l0 l1 = some (r1, r2)) :
  Calls Tryz.prog 23 #[.slice A0 l0.length c0, .slice A1 l1.length c1] w fun e w' => ∃ v0_ : Value, e = .returned (.tuple #[v0_, .int .i64 r2]) ∧ Kd.R k75 75 w' w.heap.size (fun _ => True) v0_ r1 ∧ Below w.heap.size w w' := by
 unfold list_Delta.f at h
 obtain ⟨e, he, h⟩ := bnd h
 have HOK := am (bothF_ok he.out)
 have HR0 := am hr0
 have HC0 := am hc0
 have HR1 := am hr1
 have HC1 := am hc1
 have HE := he
 have HBw := am (Below.refl w.heap.size w)
 have huB := Tryz.underlying70
 have huC := Tryz.underlying75
 clear hr0 hc0 hr1 hc1 he
 go_enter Tryz.func23, Tryz.ntmps23
 by_cases h0 : e = 0
 case neg =>
  rw [if_neg h0] at h
  obtain ⟨rfl, rfl⟩ := prB h
  have d0 : (e != 0) = true := bne_iff_ne.mpr h0
  clear h0 h
  go_wp2_with (first | (go_at_call 40; refine (both_calls k _ _ l0 _ _ l1 e _ HR0.out HC0.out HR1.out HC1.out HE.out).mono ?_; rintro _ w1 ⟨m, rfl, hb, hm⟩; replace HBw := am (below_step HBw.out hb); clear hb hm))
  go_ret2
  exact ⟨_, rfl, Kd.R_nil _ _ _ _ _, HBw.out⟩
 subst h0
 rw [if_pos rfl] at h
 obtain ⟨rfl, rfl⟩ := prB h
 clear h
 have d0 : ((0 : Int) != 0) = false := rfl
 go_wp2_with (first
  | (go_at_call 40; refine (both_calls k _ _ l0 _ _ l1 0 _ HR0.out HC0.out HR1.out HC1.out HE.out).mono ?_; rintro _ w1 ⟨m, rfl, hb, hm⟩; obtain ⟨b, rfl, hbb, hP⟩ := hm rfl; have HP := am hP; replace HBw := am (below_step HBw.out hb); clear hb hm hbb hP)
  | (go_at_call 44; refine (keysK_calls (some b) _).mono ?_; rintro _ w2 ⟨rfl, hw2⟩; have hP2 := (show PO w2 b (l0.length + l1.length) l0 l1 by rw [hw2]; exact PO_below HP.out (below_alloc (Below.refl _ _) _)); replace HBw := am (show Below w.heap.size w w2 by rw [hw2]; exact below_alloc HBw.out _); have BKm := (show w2.heap[w1.heap.size]? = some (.cells #[.map (some b)] 67 (0, 0)) by rw [hw2]; exact heap_alloc_new _ _); have hlt2 : w1.heap.size < w2.heap.size := blk_lt BKm; clear hw2 HP; have HP := am hP2; clear hP2)
  | (go_at_call 43; refine (sortedS_calls w1.heap.size b (l0.length + l1.length) l0 l1 _ hlt2 ((blk_cell BKm 0).trans rfl) HP.out (by have := okP_len HOK.out.1; have := okP_len HOK.out.2; omega)).mono ?_; rintro _ w3 ⟨v, rfl, hrow, hb⟩; replace HP := am (PO_below HP.out hb); replace HBw := am (below_step HBw.out hb); have HRW := am hrow; clear hb hrow BKm hlt2; obtain ⟨A3, c3, hv3⟩ := Kd.R_slice HRW.out; subst hv3))
 have HCs := am (Kd.R_reads' HRW.out).2.2
 clear HRW
 have HPS := am (fun x (hx : x ∈ pathsL (l0 ++ l1)) => (show x.size ≤ maxLen by obtain ⟨n, hn, rfl⟩ := (pathsL_mem _ _).1 hx; exact (List.mem_append.1 hn).elim (okP_size HOK.out.1) (okP_size HOK.out.2)))
 have HLN := am (show (pathsL (l0 ++ l1)).length ≤ 2000000000 by have := pathsL_len (l0 ++ l1); rw [List.length_append] at this; have := okP_len HOK.out.1; have := okP_len HOK.out.2; omega)
 have HDL := am (show deltaL l0 l1 = (pathsL (l0 ++ l1)).filterMap (chgL l0 l1) from rfl)
 generalize pathsL (l0 ++ l1) = ps at HCs HPS HLN HDL ⊢
 have HB := am (Below.refl w3.heap.size w3)
 go_loopw [8, 25] (fun v8 v25 wr => ∃ (j : Nat) (jv : Int), j ≤ ps.length ∧ jv = (j : Int) ∧ v25 = .int .i64 jv ∧ Aside0 (Kd.R k75 75 wr w3.heap.size (fun _ => True) v8 ((ps.take j).filterMap (chgL l0 l1))) ∧ Aside0 (Below w3.heap.size w3 wr)) (fun _ v25 _ => ps.length - (intOf v25).toNat)
 case atStart => exact ⟨0, 0, by omega, rfl, rfl, ⟨Kd.R_nil _ _ _ _ _⟩, HB⟩
 case round =>
  clear HB
  obtain ⟨j, jv, hj, hjv, rfl, HS, HB⟩ := hrel
  by_cases hlt : j < ps.length
  case neg =>
   have hnl : ¬ (jv < (ps.length : Int)) := by omega
   have hS := HS.out
   rw [List.take_of_length_le (by omega), ← HDL.out] at hS
   have HS2 := am hS
   clear hS HS
   go_wp2
   go_ret2
   exact ⟨_, rfl, Kd.R_lower HS2.out (below_size HBw.out), below_step HBw.out HB.out⟩
  case pos =>
   have p0 := eq_true (show (0 : Int) ≤ jv by omega)
   have q0 := eq_true (show jv < (ps.length : Int) by omega)
   have hl63 : ps.length ≤ 9223372036854775807 := by have := HLN.out; omega
   obtain ⟨ad, ead, hx0⟩ := Kd.at_string (Kd.C_below HCs.out HB.out) jv (by omega) (by omega)
   cases ead
   have hrd : rdOf ByteArray.empty ps jv = ps[j] := by rw [hjv]; simp [rdOf, List.getD_eq_getElem?_getD, hlt]
   obtain ⟨p, hp⟩ : ∃ p, p = ps[j] := ⟨_, rfl⟩
   rw [hrd, ← hp] at hx0
   have HSZ := am (HPS.out p (by rw [hp]; exact List.getElem_mem hlt))
   have HTK := am (show ps.take (j + 1) = ps.take j ++ [p] by rw [List.take_succ_eq_append_getElem hlt, hp])
   have Hjv := am hjv
   have Hlt := am hlt
   have HLF := am (show ((ps.take j).filterMap (chgL l0 l1)).length ≤ 2000000000 by have h1 := List.length_filterMap_le (chgL l0 l1) (ps.take j); have h2 := List.length_take_le j ps; have := HLN.out; omega)
   clear hp hrd hjv hlt hj
   by_cases hc : (lastL p l0).toList = (lastL p l1).toList
   case pos =>
    have dn : ((lastL p l0).toList == (lastL p l1).toList) = true := beq_iff_eq.mpr hc
    have dm := bne_eq_false_iff_eq.mpr hc
    have HG := am (show chgL l0 l1 p = none by unfold chgL; rw [if_pos hc])
    clear hc
    go_wp2_with (first
     | (at_lookup; refine wpList_lookup_pair rfl _ _ rfl b _ l0 l1 rfl (PO_below HP.out HB.out) p rfl HSZ.out ?_)
     | ((with_reducible refine gtD 11 ?_); refine xBx 11 70 #[.string ⟨#[]⟩, .string ⟨#[]⟩] ?_; intro g hg w9 hbox hb; have GE := am (gTx hg HB.out); have BK := am hbox; replace HS := am (Kd.R_below HS.out hb); replace HB := am (below_step HB.out hb); clear hb hbox hg; obtain ⟨d0, d1, d2, d3⟩ := bxB BK)
     | ((with_reducible refine gate_store (t := 70) (p := 11) rfl ?_); refine store_event (t := 70) (p := 11) (v := ?vo) (w1 := ((w9.setCell ⟨g, 0, none⟩ (.string (lastL p l0))).setCell ⟨g, 1, none⟩ (.string (lastL p l1)))) ?hg ?ho ?hn ?hr ?_; (case ho => rfl); (case hg => rfl); (case hn => rfl); (case hr => first | (go_simp; done) | (go_simp; rfl)); intro w10 hw; have n0_ : Aside0 (w10.heap[g]? = some (.cells #[.string (lastL p l0), .string (lastL p l1)] 70 (0, 0))) := ⟨by rw [hw]; exact kBk⟩; have n1_ := am (show Kd.R k75 75 w10 w3.heap.size (fun _ => True) _ ((ps.take j).filterMap (chgL l0 l1)) by rw [hw]; exact Kd.R_mono (Kd.R_far (p := ⟨g, 1, none⟩) (Kd.R_far (p := ⟨g, 0, none⟩) (Kd.R_types HS.out BK.out (by decide)) (fun _ hk => hk.2) _) (fun _ hk => hk.2) _) (fun _ h_ => h_.1)); replace HB := am (show Below w3.heap.size w3 w10 by rw [hw]; exact below_set (below_set HB.out GE.out) GE.out); clear hw HS BK; have BK := n0_; have HS := n1_; clear n0_ n1_; obtain ⟨d4, d5, d6, d7⟩ := bxB BK))
    refine ⟨?rel, ?measure⟩
    case measure =>
     show ps.length - (wrap64 (jv + 1)).toNat < ps.length - jv.toNat
     have := Hjv.out
     have := Hlt.out
     have := HLN.out
     unfold wrap64
     omega
    case rel =>
     have hw1 : wrap64 (jv + 1) = ((j + 1 : Nat) : Int) := by have := Hjv.out; have := Hlt.out; have := HLN.out; unfold wrap64; omega
     exact ⟨j + 1, wrap64 (jv + 1), by have := Hlt.out; omega, hw1, rfl, ⟨by rw [HTK.out, filterMap_snoc_none HG.out]; exact HS.out⟩, HB⟩
   case neg =>
    have dn : ((lastL p l0).toList == (lastL p l1).toList) = false := beq_eq_false_iff_ne.mpr hc
    have dm := bne_iff_ne.mpr hc
    have HG := am (show chgL l0 l1 p = some ⟨p, lastL p l0, lastL p l1⟩ by unfold chgL; rw [if_neg hc])
    clear hc
    obtain ⟨xs, hxs⟩ : ∃ xs, xs = (ps.take j).filterMap (chgL l0 l1) := ⟨_, rfl⟩
    rw [← hxs] at HS HLF
    have HFE := am (show (ps.take (j + 1)).filterMap (chgL l0 l1) = xs ++ [(⟨p, lastL p l0, lastL p l1⟩ : S75)] by rw [HTK.out, filterMap_snoc_some HG.out, ← hxs])
    clear hxs HG HTK
    obtain ⟨A8, c8, hv8⟩ := Kd.R_slice HS.out
    subst hv8
    go_wp2_with (first
     | (at_lookup; refine wpList_lookup_pair rfl _ _ rfl b _ l0 l1 rfl (PO_below HP.out HB.out) p rfl HSZ.out ?_)
     | ((with_reducible refine gtD 11 ?_); refine xBx 11 70 #[.string ⟨#[]⟩, .string ⟨#[]⟩] ?_; intro g hg w9 hbox hb; have GE := am (gTx hg HB.out); have BK := am hbox; replace HS := am (Kd.R_below HS.out hb); replace HB := am (below_step HB.out hb); clear hb hbox hg; obtain ⟨d0, d1, d2, d3⟩ := bxB BK)
     | ((with_reducible refine gate_store (t := 70) (p := 11) rfl ?_); refine store_event (t := 70) (p := 11) (v := ?vo) (w1 := ((w9.setCell ⟨g, 0, none⟩ (.string (lastL p l0))).setCell ⟨g, 1, none⟩ (.string (lastL p l1)))) ?hg ?ho ?hn ?hr ?_; (case ho => rfl); (case hg => rfl); (case hn => rfl); (case hr => first | (go_simp; done) | (go_simp; rfl)); intro w10 hw; have n0_ : Aside0 (w10.heap[g]? = some (.cells #[.string (lastL p l0), .string (lastL p l1)] 70 (0, 0))) := ⟨by rw [hw]; exact kBk⟩; have n1_ := am (show Kd.R k75 75 w10 w3.heap.size (fun _ => True) (.slice A8 xs.length c8) xs by rw [hw]; exact Kd.R_mono (Kd.R_far (p := ⟨g, 1, none⟩) (Kd.R_far (p := ⟨g, 0, none⟩) (Kd.R_types HS.out BK.out (by decide)) (fun _ hk => hk.2) _) (fun _ hk => hk.2) _) (fun _ h_ => h_.1)); replace HB := am (show Below w3.heap.size w3 w10 by rw [hw]; exact below_set (below_set HB.out GE.out) GE.out); clear hw HS BK; have BK := n0_; have HS := n1_; clear n0_ n1_; obtain ⟨d4, d5, d6, d7⟩ := bxB BK)
     | ((with_reducible refine gate_builtin (b := .append) (xs := #[.tmp 37, .tmp 44]) rfl ?_); at_builtin; refine Kd.R_append k75 (w0 := w3) w3.heap.size rfl (.tmp 37) (.tmp 44) 43 75 (.agg #[(.string ⟨#[]⟩), (.string ⟨#[]⟩), (.string ⟨#[]⟩)]) 48 rfl Tryz.underlying43 info75 rfl (by decide) (by omega) (.slice A8 xs.length c8) xs (⟨p, lastL p l0, lastL p l1⟩ : S75) [.string p, .string (lastL p l0), .string (lastL p l1)] (fun _ => True) (fun _ => False) rfl rfl ?aP (fun _ hk => hk.elim) ?aF ?aO ?aB ?aS ?aL ?_; (case aP => exact k75_mkM _ _ _ (⟨p, lastL p l0, lastL p l1⟩ : S75)); (case aB => exact HB.out); (case aF => exact (fun _ _ => trivial)); (case aO => exact HS.out); (case aS => exact (below_size HB.out)); (case aL => have := HLF.out; omega); intro dg w12 ho hb hg hat; replace HB := am hb; have HS2 := am ho; clear HS ho hb hg hat))
    refine ⟨?rel, ?measure⟩
    case measure =>
     show ps.length - (wrap64 (jv + 1)).toNat < ps.length - jv.toNat
     have := Hjv.out
     have := Hlt.out
     have := HLN.out
     unfold wrap64
     omega
    case rel =>
     have hw1 : wrap64 (jv + 1) = ((j + 1 : Nat) : Int) := by have := Hjv.out; have := Hlt.out; have := HLN.out; unfold wrap64; omega
     exact ⟨j + 1, wrap64 (jv + 1), by have := Hlt.out; omega, hw1, rfl, ⟨by rw [HFE.out]; exact HS2.out⟩, HB⟩
/-! #### list.changes -/
def noneV (k : Nat) (v : ByteArray) : Option Bool := if v.toList = [] then some false else (version_May.f k v).bind fun b => some (!b)
theorem noneV_mono (k : Nat) (v : ByteArray) : LeO (noneV k v) (noneV (k + 1) v) := LeO.ite (LeO.refl _) (LeO.bind (version_May.mono _ _) fun _ => LeO.refl _)
theorem noneV_calls (k : Nat) (v : ByteArray) (r : Bool) (w : World) (h : noneV k v = some r) : Calls Tryz.prog 76 #[.string v] w fun e w' => e = .returned (.bool r) ∧ Below w.heap.size w w' := by
 unfold noneV at h
 have HB := am (Below.refl w.heap.size w)
 go_enter Tryz.func76, Tryz.ntmps76
 by_cases hc : v.toList = ([] : List UInt8)
 ·rw [if_pos hc] at h
  have h := Option.some.inj h
  subst h
  have dn : (v.toList == ([] : List UInt8)) = true := beq_iff_eq.mpr hc
  clear hc
  go_wp2
  go_ret
  exact ⟨rfl, HB.out⟩
 ·rw [if_neg hc] at h
  obtain ⟨b, hb, h⟩ := bnd h
  have h := Option.some.inj h
  subst h
  have HV := hb
  have dn : (v.toList == ([] : List UInt8)) = false := beq_eq_false_iff_ne.mpr hc
  clear hc hb
  go_wp2_with (first | (go_at_call 77; refine (version_May.calls k v b _ HV.out).mono ?_; rintro _ w1 ⟨rfl, hb⟩; replace HB := am (below_step HB.out hb); clear hb))
  go_ret
  exact ⟨rfl, HB.out⟩
def chgOne (k : Nat) (q : Option ByteArray) (x : S75) : Option Bool := (path_May.f k x.f0).bind fun m => if m = true then (noneV k x.f1).bind fun n1 => (if n1 = true then some false else (noneV k x.f2).bind fun n2 => if n2 = true then some false else if x.f1.toList = x.f2.toList then some false else some (match q with | none => true | some y => Op.bytesLess y.toList x.f0.toList)) else some false
def chgsF (k : Nat) : Option ByteArray → List S75 → Option Bool
 | _, [] => some true
 | q, x :: c => (chgOne k q x).bind fun b => if b = true then chgsF k (some x.f0) c else some false
theorem chgOne_mono (k : Nat) (q : Option ByteArray) (x : S75) : LeO (chgOne k q x) (chgOne (k + 1) q x) := LeO.bind (path_May.mono _ _) fun _ => LeO.ite (LeO.bind (noneV_mono _ _) fun _ => LeO.ite (LeO.refl _) (LeO.bind (noneV_mono _ _) fun _ => LeO.refl _)) (LeO.refl _)
theorem chgsF_mono (k : Nat) : ∀ (c : List S75) (q : Option ByteArray), LeO (chgsF k q c) (chgsF (k + 1) q c)
 | [], _ => LeO.refl _
 | _ :: c, _ => LeO.bind (chgOne_mono _ _ _) fun _ => LeO.ite (chgsF_mono k c _) (LeO.refl _)
def list_changes.T5 : Bool × List (List Nat × List Nat) := (true, [([], []), ([0], [0]), ([1], [1]), ([2], [2]), ([3, 2], [3]), ([4], [4]), ([4], [4]), ([6, 4], [4, 6]), ([5, 7, 4, 4], [4, 5, 7]), ([4, 8], [4, 8]), ([9, 8], [9]), ([10], [10]), ([10], [10]), ([12, 10], [10, 12]), ([11, 13, 10, 10], [10, 11, 13]), ([10, 14], [10, 14]), ([15, 14], [15]), ([16], [16]), ([17, 16], [16, 17]), ([16], [16]), ([19, 16], [16, 19]), ([18, 20, 16], [16, 18, 20]), ([16, 21], [16, 21]), ([22, 16], [22]), ([23], [23]), ([24, 23], [23, 24]), ([25, 23, 23], [23, 25]), ([26], [26]), ([26], [26]), ([28, 26], [26, 28]), ([27, 29, 26], [26, 27, 29]), ([30, 26], [26, 30]), ([31, 26], [26, 31]), ([26], [26]), ([33, 26], [26, 33]), ([32, 34, 26], [26, 32, 34]), ([26, 35, 23], [23, 26, 35]), ([23, 36], [23, 36])])
def list_changes.B5 : List Nat := [0, 1, 3, 7, 15, 31, 31, 95, 255, 511, 1023, 2047, 2047, 6143, 16383, 32767, 65535, 131071, 262143, 131071, 655359, 2097151, 4194303, 8388607, 16777215, 33554431, 67108863, 134217727, 134217727, 402653183, 1073741823, 2147483647, 4294967295, 134217727, 8724152319, 34359738367, 68719476735, 137438953471]
theorem list_changes.tab5 : rtab .any (opsOf Tryz.f45 5) = list_changes.T5 := by kernel_rfl
theorem list_changes.bits5 : waitsOk list_changes.T5.2 list_changes.B5 = true := by kernel_rfl
section
variable {P : Program} {ops : Array Oper} {Q : Exit → Act → World → Prop} {md : Region.Mode} {S : World → Prop} {ds : List Nat} {oi : Oper} {fuel N m : Nat} {a : Act} {w : World} {T : Bool × List (List Nat × List Nat)}
/-- As zC, of a function value. -/
theorem zK {d : Option Tmp} {w0 : World} {f : FuncId} {args : Array Value} {r : Value} (hS : ∀ W, Aside0 (Below w0.heap.size w0 W) → S W) (hT : Aside0 (rtab md ops = T)) (HB : Aside0 (Below w0.heap.size w0 w))
  (hC : Calls P f args w fun e w' => e = .returned r ∧ Below w.heap.size w w') (h : ∀ w', Aside0 (Below w0.heap.size w0 w') → S w' → wpAnyLast P md ops Q S ds fuel (bA N (2 ^ (N - fuel) - 1)) (a.put d r) w') (hi : ops[N - 1 - fuel]? = some oi := by rfl) (hN : oi.dst = d := by rfl)
  (hc : (readyT T.2 (bA N m).toList == [N - 1 - fuel] && (bA N m).toList.set (N - 1 - fuel) true == (bA N (2 ^ (N - fuel) - 1)).toList) = true := by kernel_rfl) (hd : N - 1 - fuel ∉ ds := by decide) (hw : Region.wanted oi (yielded ops a.tmps) = true := by rfl)
  (hrun : (execOp a.eval oi).run P w = .ok (.enter f args) w := by first | (go_simp; done) | (go_simp; rfl)) : wpAnyLast P md ops Q S ds (fuel + 1) (bA N m) a w :=
 zO hT (fun _ hK => call_ f args hw hN hrun (hC.mono fun _ w' h' => ⟨r, h'.1, hK.out _ _ (hS w' ⟨below_step HB.out h'.2⟩) fun hs => h w' ⟨below_step HB.out h'.2⟩ hs⟩)) hi hN hc hd
end
theorem s3K {w W : World} {g : Nat} {t : TypeId} {x y z : ByteArray} (BK : Aside0 (w.heap[g]? = some (.cells #[.string x, .string y, .string z] t (0, 0)))) (HZ : Aside0 (Below w.heap.size w W)) : W.cell? ⟨g, 0, none⟩ = some (.string x) ∧ W.cell? ⟨g, 1, none⟩ = some (.string y) ∧ W.cell? ⟨g, 2, none⟩ = some (.string z) :=
 ⟨(blk_cell (blk_below BK.out HZ.out) 0).trans rfl, (blk_cell (blk_below BK.out HZ.out) 1).trans rfl, (blk_cell (blk_below BK.out HZ.out) 2).trans rfl⟩
set_option maxRecDepth 100000 in
set_option maxHeartbeats 8000000 in
theorem chgs_calls (k : Nat) (A0 : Option Addr) (c0 : Nat) (c : List S75) (r : Bool) (w : World) (hr0 : Kd.C k75 w A0 c.length c) (hc0 : c.length ≤ c0) (hl : c.length ≤ 1000000000) (h : chgsF k none c = some r) :
  Calls Tryz.prog 45 #[.slice A0 c.length c0] w fun e w' => e = .returned (.bool r) ∧ Below w.heap.size w w' := by
 have HR0 := am hr0
 have HLN := am hl
 have HF := am h
 have HB := am (Below.refl w.heap.size w)
 have huC := Tryz.underlying75
 have hl63 : c.length ≤ 9223372036854775807 := by omega
 clear hr0 hc0 hl h
 go_enter Tryz.func45, Tryz.ntmps45
 go_wp2
 go_loopw [8] (fun v8 wr => ∃ (j : Nat) (jv : Int) (q : Option ByteArray), j ≤ c.length ∧ jv = (j : Int) ∧ v8 = .int .i64 jv ∧ ((j = 0 ∧ q = none) ∨ ∃ (t : Nat) (y : S75), j = t + 1 ∧ c[t]? = some y ∧ q = some y.f0) ∧ Aside0 (chgsF k q (c.drop j) = some r) ∧ Aside0 (Below w.heap.size w wr)) (fun v8 _ => c.length - (intOf v8).toNat)
 case atStart => exact ⟨0, 0, none, by omega, rfl, rfl, .inl ⟨rfl, rfl⟩, HF, HB⟩
 case round =>
  clear HF HB
  obtain ⟨j, jv, q, hj, hjv, rfl, hq, HF, HB⟩ := hrel
  by_cases hlt : j < c.length
  case neg =>
   have hnl : ¬ (jv < (c.length : Int)) := by omega
   have h := HF.out
   rw [List.drop_eq_nil_of_le (by omega)] at h
   obtain rfl := Option.some.inj h
   clear h HF hq
   go_wp2
   go_ret
   exact ⟨rfl, HB.out⟩
  case pos =>
   have p0 := eq_true (show (0 : Int) ≤ jv by omega)
   have q0 := eq_true (show jv < (c.length : Int) by omega)
   obtain ⟨ad, ead, hx0, hx1, hx2⟩ := at_T75 (Kd.C_below HR0.out HB.out) jv (by omega) (by omega)
   cases ead
   have hrd : rd_T75 c jv = c[j] := by rw [hjv]; simp [rd_T75, List.getD_eq_getElem?_getD, hlt]
   obtain ⟨x, hxe⟩ : ∃ x, x = c[j] := ⟨_, rfl⟩
   rw [hrd, ← hxe] at hx0 hx1 hx2
   have h := HF.out
   rw [List.drop_eq_getElem_cons hlt, ← hxe, chgsF] at h
   have Hjv := am hjv
   have Hlt := am hlt
   have HXE := am (show c[j]? = some x by rw [hxe]; exact List.getElem?_eq_getElem hlt)
   have Hq := am hq
   have Hh := am h
   clear HF hrd hxe hq hjv hlt hj h
   go_wp2_with (first
    | ((with_reducible refine gtD 5 ?_); refine xBx 5 75 #[.string ⟨#[]⟩, .string ⟨#[]⟩, .string ⟨#[]⟩] ?_; intro g hg w9 hbox hb; have GE := am (gTx hg HB.out); have BK := am hbox; replace HB := am (below_step HB.out hb); clear hb hbox hg; obtain ⟨b0, b1, b2, b3, b4, b5⟩ := bxC BK)
    | ((with_reducible refine gate_store (t := 75) (p := 5) rfl ?_); refine store_event (t := 75) (p := 5) (v := ?vo) (w1 := (((w9.setCell ⟨g, 0, none⟩ (.string x.f0)).setCell ⟨g, 1, none⟩ (.string x.f1)).setCell ⟨g, 2, none⟩ (.string x.f2))) ?hg ?ho ?hn ?hr ?_; (case ho => rfl); (case hg => rfl); (case hn => rfl); (case hr => first | (go_simp; done) | (go_simp; rfl)); intro w10 hw; have n0_ : Aside0 (w10.heap[g]? = some (.cells #[.string x.f0, .string x.f1, .string x.f2] 75 (0, 0))) := ⟨by rw [hw]; exact kBk⟩; replace HB := am (show Below w.heap.size w w10 by rw [hw]; exact below_set (below_set (below_set HB.out GE.out) GE.out) GE.out); clear hw BK; have BK := n0_; clear n0_ b0 b1 b2 b3 b4 b5))
   have hq := Hq.out
   have h := Hh.out
   have hjv := Hjv.out
   have hlt := Hlt.out
   have hj := Nat.le_of_lt hlt
   clear Hq Hh
   obtain ⟨b, hb1, h⟩ := bnd h
   have hb1 := hb1.out
   unfold chgOne at hb1
   obtain ⟨m, HMY, hb1⟩ := bnd hb1
   cases m with
   | false =>
    obtain rfl := Option.some.inj hb1
    obtain rfl := Option.some.inj h
    clear hb1 h hq hjv hlt hj
    have hS := fun (W : World) (HZ : Aside0 (Below w10.heap.size w10 W)) => s3K BK HZ
    refine zS 38 hS ⟨Below.refl _ _⟩ list_changes.tab5 list_changes.bits5 fun wd HZ hHeld HT_ HW_ => ?_
    refine zT HT_ ?_
    refine zL HT_ HW_ hHeld ?_
    refine zC hS HT_ HZ Tryz.func32 (path_May.calls k x.f0 _ _ HMY.out) fun wc HZ hHeld => ?_
    refine mN _ ?_
    iterate 2 refine zT HT_ ?_
    iterate 4 refine zU HT_ ?_
    iterate 2 refine zT HT_ ?_
    iterate 4 refine zU HT_ ?_
    iterate 2 refine zT HT_ ?_
    iterate 5 refine zU HT_ ?_
    iterate 2 refine zT HT_ ?_
    iterate 13 refine zU HT_ ?_
    refine zT HT_ ?_
    refine zD HT_ ?_
    replace HB := am (below_step HB.out HZ.out)
    go_wp2
    go_ret
    exact ⟨rfl, HB.out⟩
   | true =>
    rw [if_pos rfl] at hb1
    obtain ⟨n1, HN1, hb1⟩ := bnd hb1
    cases n1 with
    | true =>
     obtain rfl := Option.some.inj hb1
     obtain rfl := Option.some.inj h
     clear hb1 h hq hjv hlt hj
     have hS := fun (W : World) (HZ : Aside0 (Below w10.heap.size w10 W)) => s3K BK HZ
     refine zS 38 hS ⟨Below.refl _ _⟩ list_changes.tab5 list_changes.bits5 fun wd HZ hHeld HT_ HW_ => ?_
     refine zT HT_ ?_
     refine zL HT_ HW_ hHeld ?_
     refine zC hS HT_ HZ Tryz.func32 (path_May.calls k x.f0 _ _ HMY.out) fun wc HZ hHeld => ?_
     refine mN _ ?_
     iterate 4 refine zT HT_ ?_
     refine zL HT_ HW_ hHeld ?_
     refine zK hS HT_ HZ (noneV_calls k x.f1 _ _ HN1.out) fun wc HZ hHeld => ?_
     refine mN _ ?_
     iterate 2 refine zT HT_ ?_
     iterate 4 refine zU HT_ ?_
     iterate 2 refine zT HT_ ?_
     iterate 5 refine zU HT_ ?_
     iterate 2 refine zT HT_ ?_
     iterate 13 refine zU HT_ ?_
     refine zT HT_ ?_
     refine zD HT_ ?_
     replace HB := am (below_step HB.out HZ.out)
     go_wp2
     go_ret
     exact ⟨rfl, HB.out⟩
    | false =>
     rw [if_neg Bool.false_ne_true] at hb1
     obtain ⟨n2, HN2, hb1⟩ := bnd hb1
     cases n2 with
     | true =>
      obtain rfl := Option.some.inj hb1
      obtain rfl := Option.some.inj h
      clear hb1 h hq hjv hlt hj
      have hS := fun (W : World) (HZ : Aside0 (Below w10.heap.size w10 W)) => s3K BK HZ
      refine zS 38 hS ⟨Below.refl _ _⟩ list_changes.tab5 list_changes.bits5 fun wd HZ hHeld HT_ HW_ => ?_
      refine zT HT_ ?_
      refine zL HT_ HW_ hHeld ?_
      refine zC hS HT_ HZ Tryz.func32 (path_May.calls k x.f0 _ _ HMY.out) fun wc HZ hHeld => ?_
      refine mN _ ?_
      iterate 4 refine zT HT_ ?_
      refine zL HT_ HW_ hHeld ?_
      refine zK hS HT_ HZ (noneV_calls k x.f1 _ _ HN1.out) fun wc HZ hHeld => ?_
      refine mN _ ?_
      iterate 4 refine zT HT_ ?_
      refine zL HT_ HW_ hHeld ?_
      refine zK hS HT_ HZ (noneV_calls k x.f2 _ _ HN2.out) fun wc HZ hHeld => ?_
      refine mN _ ?_
      iterate 2 refine zT HT_ ?_
      iterate 5 refine zU HT_ ?_
      iterate 2 refine zT HT_ ?_
      iterate 13 refine zU HT_ ?_
      refine zT HT_ ?_
      refine zD HT_ ?_
      replace HB := am (below_step HB.out HZ.out)
      go_wp2
      go_ret
      exact ⟨rfl, HB.out⟩
     | false =>
      rw [if_neg Bool.false_ne_true] at hb1
      by_cases he : x.f1.toList = x.f2.toList
      ·rw [if_pos he] at hb1
       obtain rfl := Option.some.inj hb1
       obtain rfl := Option.some.inj h
       have de : (x.f1.toList == x.f2.toList) = true := beq_iff_eq.mpr he
       clear hb1 h hq hjv hlt hj he
       have hS := fun (W : World) (HZ : Aside0 (Below w10.heap.size w10 W)) => s3K BK HZ
       refine zS 38 hS ⟨Below.refl _ _⟩ list_changes.tab5 list_changes.bits5 fun wd HZ hHeld HT_ HW_ => ?_
       refine zT HT_ ?_
       refine zL HT_ HW_ hHeld ?_
       refine zC hS HT_ HZ Tryz.func32 (path_May.calls k x.f0 _ _ HMY.out) fun wc HZ hHeld => ?_
       refine mN _ ?_
       iterate 4 refine zT HT_ ?_
       refine zL HT_ HW_ hHeld ?_
       refine zK hS HT_ HZ (noneV_calls k x.f1 _ _ HN1.out) fun wc HZ hHeld => ?_
       refine mN _ ?_
       iterate 4 refine zT HT_ ?_
       refine zL HT_ HW_ hHeld ?_
       refine zK hS HT_ HZ (noneV_calls k x.f2 _ _ HN2.out) fun wc HZ hHeld => ?_
       refine mN _ ?_
       iterate 3 refine zT HT_ ?_
       refine zL HT_ HW_ hHeld ?_
       refine zT HT_ ?_
       refine zL HT_ HW_ hHeld ?_
       iterate 3 refine zT HT_ ?_
       iterate 13 refine zU HT_ ?_
       refine zT HT_ ?_
       refine zD HT_ ?_
       replace HB := am (below_step HB.out HZ.out)
       go_wp2
       go_ret
       exact ⟨rfl, HB.out⟩
      ·rw [if_neg he] at hb1
       have de : (x.f1.toList == x.f2.toList) = false := beq_eq_false_iff_ne.mpr he
       clear he
       rcases hq with ⟨rfl, rfl⟩ | ⟨t, y, rfl, hty, rfl⟩
       ·obtain rfl := Option.some.inj hb1
        have HNX := am (show chgsF k (some x.f0) (c.drop (0 + 1)) = some r from h)
        have dz : decide (0 < jv) = false := decide_eq_false (by omega)
        clear hb1 h hjv hlt hj
        have hS := fun (W : World) (HZ : Aside0 (Below w10.heap.size w10 W)) => s3K BK HZ
        refine zS 38 hS ⟨Below.refl _ _⟩ list_changes.tab5 list_changes.bits5 fun wd HZ hHeld HT_ HW_ => ?_
        refine zT HT_ ?_
        refine zL HT_ HW_ hHeld ?_
        refine zC hS HT_ HZ Tryz.func32 (path_May.calls k x.f0 _ _ HMY.out) fun wc HZ hHeld => ?_
        refine mN _ ?_
        iterate 4 refine zT HT_ ?_
        refine zL HT_ HW_ hHeld ?_
        refine zK hS HT_ HZ (noneV_calls k x.f1 _ _ HN1.out) fun wc HZ hHeld => ?_
        refine mN _ ?_
        iterate 4 refine zT HT_ ?_
        refine zL HT_ HW_ hHeld ?_
        refine zK hS HT_ HZ (noneV_calls k x.f2 _ _ HN2.out) fun wc HZ hHeld => ?_
        refine mN _ ?_
        iterate 3 refine zT HT_ ?_
        refine zL HT_ HW_ hHeld ?_
        refine zT HT_ ?_
        refine zL HT_ HW_ hHeld ?_
        iterate 6 refine zT HT_ ?_
        iterate 9 refine zU HT_ ?_
        iterate 2 refine zT HT_ ?_
        refine zD HT_ ?_
        replace HB := am (below_step HB.out HZ.out)
        go_wp2
        refine ⟨?rel, ?measure⟩
        case measure =>
         show c.length - (wrap64 (jv + 1)).toNat < c.length - jv.toNat
         have := Hjv.out
         have := Hlt.out
         have := HLN.out
         unfold wrap64
         omega
        case rel =>
         have hw1 : wrap64 (jv + 1) = ((0 + 1 : Nat) : Int) := by have := Hjv.out; have := Hlt.out; have := HLN.out; unfold wrap64; omega
         exact ⟨0 + 1, wrap64 (jv + 1), some x.f0, by have := Hlt.out; omega, hw1, rfl, .inr ⟨0, x, rfl, HXE.out, rfl⟩, HNX, HB⟩
       ·obtain ⟨ht, hye⟩ := List.getElem?_eq_some_iff.1 hty
        obtain ⟨tv, htv⟩ : ∃ tv : Int, tv = (t : Int) := ⟨_, rfl⟩
        obtain ⟨ay, eay, hy0, hy1, hy2⟩ := at_T75 HR0.out tv (by omega) (by omega)
        obtain rfl : ad = ay := (by injection eay)
        have hrd : rd_T75 c tv = c[t] := by rw [htv]; simp [rd_T75, List.getD_eq_getElem?_getD, ht]
        rw [hrd, hye] at hy0
        have dz : decide (0 < jv) = true := decide_eq_true (by omega)
        have hwv : wrap64 (jv - 1) = tv := by have := HLN.out; unfold wrap64; omega
        have ce : (IntKind.i64.wrap (jv - 1)) = tv := (i64_w _).trans hwv
        have p1 := eq_true (show (0 : Int) ≤ tv by omega)
        have q1 := eq_true (show tv < (c.length : Int) by omega)
        cases hg0 : Op.bytesLess y.f0.toList x.f0.toList with
        | false =>
         simp only [hg0] at hb1
         obtain rfl := Option.some.inj hb1
         obtain rfl := Option.some.inj h
         clear hb1 h hjv hlt hj hy1 hy2 hrd hye htv ht hty
         have hS := fun (W : World) (HZ : Aside0 (Below w10.heap.size w10 W)) => And.intro (s3K BK HZ) (((below_step HB.out HZ.out).cell (World.block_lt_of_cell? w _ hy0)).trans hy0)
         refine zS 38 hS ⟨Below.refl _ _⟩ list_changes.tab5 list_changes.bits5 fun wd HZ hHeld HT_ HW_ => ?_
         refine zT HT_ ?_
         refine zL HT_ HW_ hHeld ?_
         refine zC hS HT_ HZ Tryz.func32 (path_May.calls k x.f0 _ _ HMY.out) fun wc HZ hHeld => ?_
         refine mN _ ?_
         iterate 4 refine zT HT_ ?_
         refine zL HT_ HW_ hHeld ?_
         refine zK hS HT_ HZ (noneV_calls k x.f1 _ _ HN1.out) fun wc HZ hHeld => ?_
         refine mN _ ?_
         iterate 4 refine zT HT_ ?_
         refine zL HT_ HW_ hHeld ?_
         refine zK hS HT_ HZ (noneV_calls k x.f2 _ _ HN2.out) fun wc HZ hHeld => ?_
         refine mN _ ?_
         iterate 3 refine zT HT_ ?_
         refine zL HT_ HW_ hHeld ?_
         refine zT HT_ ?_
         refine zL HT_ HW_ hHeld ?_
         iterate 11 refine zT HT_ ?_
         refine zL HT_ HW_ hHeld ?_
         refine zT HT_ ?_
         refine zL HT_ HW_ hHeld ?_
         iterate 3 refine zT HT_ ?_
         refine zD HT_ ?_
         replace HB := am (below_step HB.out HZ.out)
         go_wp2
         go_ret
         exact ⟨rfl, HB.out⟩
        | true =>
         simp only [hg0] at hb1
         obtain rfl := Option.some.inj hb1
         have HNX := am (show chgsF k (some x.f0) (c.drop (t + 1 + 1)) = some r from h)
         clear hb1 h hjv hlt hj hy1 hy2 hrd hye htv ht hty
         have hS := fun (W : World) (HZ : Aside0 (Below w10.heap.size w10 W)) => And.intro (s3K BK HZ) (((below_step HB.out HZ.out).cell (World.block_lt_of_cell? w _ hy0)).trans hy0)
         refine zS 38 hS ⟨Below.refl _ _⟩ list_changes.tab5 list_changes.bits5 fun wd HZ hHeld HT_ HW_ => ?_
         refine zT HT_ ?_
         refine zL HT_ HW_ hHeld ?_
         refine zC hS HT_ HZ Tryz.func32 (path_May.calls k x.f0 _ _ HMY.out) fun wc HZ hHeld => ?_
         refine mN _ ?_
         iterate 4 refine zT HT_ ?_
         refine zL HT_ HW_ hHeld ?_
         refine zK hS HT_ HZ (noneV_calls k x.f1 _ _ HN1.out) fun wc HZ hHeld => ?_
         refine mN _ ?_
         iterate 4 refine zT HT_ ?_
         refine zL HT_ HW_ hHeld ?_
         refine zK hS HT_ HZ (noneV_calls k x.f2 _ _ HN2.out) fun wc HZ hHeld => ?_
         refine mN _ ?_
         iterate 3 refine zT HT_ ?_
         refine zL HT_ HW_ hHeld ?_
         refine zT HT_ ?_
         refine zL HT_ HW_ hHeld ?_
         iterate 11 refine zT HT_ ?_
         refine zL HT_ HW_ hHeld ?_
         refine zT HT_ ?_
         refine zL HT_ HW_ hHeld ?_
         iterate 3 refine zT HT_ ?_
         refine zD HT_ ?_
         replace HB := am (below_step HB.out HZ.out)
         go_wp2
         refine ⟨?rel, ?measure⟩
         case measure =>
          show c.length - (wrap64 (jv + 1)).toNat < c.length - jv.toNat
          have := Hjv.out
          have := Hlt.out
          have := HLN.out
          unfold wrap64
          omega
         case rel =>
          have hw1 : wrap64 (jv + 1) = ((t + 1 + 1 : Nat) : Int) := by have := Hjv.out; have := Hlt.out; have := HLN.out; unfold wrap64; omega
          exact ⟨t + 1 + 1, wrap64 (jv + 1), some x.f0, by have := Hlt.out; omega, hw1, rfl, .inr ⟨t + 1, x, rfl, HXE.out, rfl⟩, HNX, HB⟩
/-! #### list.Apply -/
def aplGo : List S55 → List S75 → Option (List S55)
 | a, [] => some a
 | a, x :: c => if (lastL x.f0 a).toList = x.f1.toList then aplGo (a ++ [⟨x.f0, x.f2⟩]) c else none
def aplN (a : List S55) (p : ByteArray) : Option S55 := if (lastL p a).toList = [] then none else some ⟨p, lastL p a⟩
def aplL (a : List S55) : List S55 := (pathsL a).filterMap (aplN a)
def okC (c : List S75) : Bool := decide (c.length ≤ 1000000000) && c.all fun x => decide (x.f0.size ≤ 1000000000)
theorem okC_len {c : List S75} (h : okC c = true) : c.length ≤ 1000000000 := by
 unfold okC at h
 rw [Bool.and_eq_true, decide_eq_true_eq] at h
 exact h.1
theorem okC_size {c : List S75} (h : okC c = true) {x : S75} (hx : x ∈ c) : x.f0.size ≤ maxLen := by
 unfold okC at h
 rw [Bool.and_eq_true, List.all_eq_true] at h
 have := of_decide_eq_true (h.2 x hx)
 unfold maxLen
 omega
def aplR (l : List S55) (c : List S75) : List S55 × Int := match aplGo l c with
 | none => ([], 2)
 | some a => (aplL a, 0)
def list_Apply.f (k : Nat) (l0 : List (S55)) (l1 : List (S75)) : Option (List (S55) × Int) := if okC l1 = true then (bothF k l0 []).bind fun e => (if e = 0 then (chgsF k none l1).bind fun b => (if b = true then some (aplR l0 l1) else some ([], 1)) else some ([], 1)) else none
theorem list_Apply.mono : ∀ a0 a1 k, LeO (list_Apply.f k a0 a1) (list_Apply.f (k + 1) a0 a1) := fun a b k => LeO.ite (LeO.bind (bothF_mono k a []) fun _ => LeO.ite (LeO.bind (chgsF_mono k b none) fun _ => LeO.refl _) (LeO.refl _)) (LeO.none _)
theorem PM_chg {D : DataW Unit} {a : List S55} (h : PM D a []) (p v : ByteArray) (hp : p.size ≤ maxLen) : PM (D.put (keyS p) (pairD v ⟨#[]⟩)) (a ++ [⟨p, v⟩]) [] := PM_old h ⟨p, v⟩ hp
theorem sortedA_calls (B b nn : Nat) (a : List S55) (w : World) (hBl : B < w.heap.size) (hB : w.cell? ⟨B, 0, none⟩ = some (.map (some b))) (hP : PO w b nn a []) (hn : nn ≤ 2000000000) :
  Calls Tryz.prog 43 #[.func (.func 75) #[] #[.pointer (some ⟨B, 0, none⟩)]] w fun e w' => ∃ v, e = .returned v ∧ Kd.R Kd.string 9 w' w.heap.size (fun _ => True) v (pathsL a) ∧ Below w.heap.size w w' := by
 have h := sortedS_calls B b nn a [] w hBl hB hP hn
 rw [List.append_nil] at h
 exact h
theorem index70 (x y : ByteArray) (w : World) : (Instr.index 70 (.agg #[.string x, .string y]) (.int .i64 0)).run Tryz.prog w = .ok (.string x) w := by kernel_rfl
set_option maxRecDepth 100000 in
set_option maxHeartbeats 8000000 in
theorem list_Apply.calls (k : Nat) (A0 : Option Addr) (c0 : Nat) (l0 : List (S55)) (A1 : Option Addr) (c1 : Nat) (l1 : List (S75)) (r1 : List (S55)) (r2 : Int) (w : World) (hr0 : Kd.C k55 w A0 l0.length l0) (hc0 : l0.length ≤ c0) (hr1 : Kd.C k75 w A1 l1.length l1) (hc1 : l1.length ≤ c1) (h : list_Apply.f k l0 l1 = some (r1, r2)) :
  Calls Tryz.prog 24 #[.slice A0 l0.length c0, .slice A1 l1.length c1] w fun e w' => ∃ v0_ : Value, e = .returned (.tuple #[v0_, .int .i64 r2]) ∧ Kd.R k55 55 w' w.heap.size (fun _ => True) v0_ r1 ∧ Below w.heap.size w w' := by
 unfold list_Apply.f at h
 replace h := ifN h
 obtain ⟨hok, h⟩ := h
 obtain ⟨e, he, h⟩ := bnd h
 have HOK := am (bothF_ok he.out).1
 have HOC := am hok
 have HR0 := am hr0
 have HC0 := am hc0
 have HR1 := am hr1
 have HC1 := am hc1
 have HE := he
 have HBw := am (Below.refl w.heap.size w)
 have HNL := am (show Kd.C k55 w none ([] : List S55).length [] from Kd.C_nil _ _)
 have huB := Tryz.underlying70
 have huC := Tryz.underlying75
 have huN := Tryz.underlying55
 have huM := Tryz.underlying67
 clear hr0 hc0 hr1 hc1 he hok
 go_enter Tryz.func24, Tryz.ntmps24
 by_cases h0 : e = 0
 case neg =>
  rw [if_neg h0] at h
  obtain ⟨rfl, rfl⟩ := prB h
  have d0 : (e != 0) = true := bne_iff_ne.mpr h0
  clear h0 h
  go_wp2_with (first | (go_at_call 40; refine (both_calls k _ _ l0 none 0 [] e _ HR0.out HC0.out HNL.out (Nat.le_refl _) HE.out).mono ?_; rintro _ w1 ⟨m, rfl, hb, hm⟩; replace HBw := am (below_step HBw.out hb); clear hb hm))
  go_ret2
  exact ⟨_, rfl, Kd.R_nil _ _ _ _ _, HBw.out⟩
 subst h0
 rw [if_pos rfl] at h
 obtain ⟨bc, hbc, h⟩ := bnd h
 have HCH := hbc
 clear hbc
 have d0 : ((0 : Int) != 0) = false := rfl
 cases bc with
 | false =>
  obtain ⟨rfl, rfl⟩ := prB h
  clear h
  go_wp2_with (first
   | (go_at_call 40; refine (both_calls k _ _ l0 none 0 [] 0 _ HR0.out HC0.out HNL.out (Nat.le_refl _) HE.out).mono ?_; rintro _ w1 ⟨m, rfl, hb, hm⟩; replace HBw := am (below_step HBw.out hb); clear hb hm)
   | (go_at_call 45; refine (chgs_calls k _ _ l1 false _ (Kd.C_below HR1.out HBw.out) HC1.out (okC_len HOC.out) HCH.out).mono ?_; rintro _ w2 ⟨rfl, hb⟩; replace HBw := am (below_step HBw.out hb); clear hb))
  go_ret2
  exact ⟨_, rfl, Kd.R_nil _ _ _ _ _, HBw.out⟩
 | true =>
  rw [if_pos rfl] at h
  have HRES := am (Option.some.inj h)
  clear h
  go_wp2_with (first
   | (go_at_call 40; refine (both_calls k _ _ l0 none 0 [] 0 _ HR0.out HC0.out HNL.out (Nat.le_refl _) HE.out).mono ?_; rintro _ w1 ⟨m, rfl, hb, hm⟩; obtain ⟨b, rfl, hbb, hP⟩ := hm rfl; have HP := am hP; have HGB := am hbb; replace HBw := am (below_step HBw.out hb); clear hb hm hbb hP)
   | (go_at_call 45; refine (chgs_calls k _ _ l1 true _ (Kd.C_below HR1.out HBw.out) HC1.out (okC_len HOC.out) HCH.out).mono ?_; rintro _ w2 ⟨rfl, hb⟩; replace HP := am (PO_below HP.out hb); replace HBw := am (below_step HBw.out hb); clear hb))
  have hl63 : l1.length ≤ 9223372036854775807 := by have := okC_len HOC.out; omega
  go_loopw [28] (fun v28 wr => ∃ (j : Nat) (jv : Int) (a : List S55), j ≤ l1.length ∧ jv = (j : Int) ∧ v28 = .int .i64 jv ∧ Aside0 (aplGo a (l1.drop j) = aplGo l0 l1) ∧ Aside0 (PO wr b (l0.length + j) a []) ∧ Aside0 (a.length = l0.length + j) ∧ Aside0 (∀ n, n ∈ a → n.f0.size ≤ maxLen) ∧ Aside0 (Below w.heap.size w wr)) (fun v28 _ => l1.length - (intOf v28).toNat)
  case atStart => exact ⟨0, 0, l0, by omega, rfl, rfl, ⟨rfl⟩, ⟨by simpa using HP.out⟩, ⟨rfl⟩, ⟨fun n hn => okP_size HOK.out hn⟩, HBw⟩
  case round =>
   clear HP HBw
   obtain ⟨j, jv, a, hj, hjv, rfl, HG, HP, HAL, HAS, HB⟩ := hrel
   by_cases hlt : j < l1.length
   case pos =>
    have p0 := eq_true (show (0 : Int) ≤ jv by omega)
    have q0 := eq_true (show jv < (l1.length : Int) by omega)
    obtain ⟨ad, ead, hx0, hx1, hx2⟩ := at_T75 (Kd.C_below HR1.out HB.out) jv (by omega) (by omega)
    cases ead
    have hrd : rd_T75 l1 jv = l1[j] := by rw [hjv]; simp [rd_T75, List.getD_eq_getElem?_getD, hlt]
    obtain ⟨x, hxe⟩ : ∃ x, x = l1[j] := ⟨_, rfl⟩
    rw [hrd, ← hxe] at hx0 hx1 hx2
    have h := HG.out
    rw [List.drop_eq_getElem_cons hlt, ← hxe, aplGo] at h
    have HSZ := am (okC_size HOC.out (x := x) (by rw [hxe]; exact List.getElem_mem hlt))
    have Hjv := am hjv
    have Hlt := am hlt
    have hi70 := index70
    clear HG hrd hxe hjv hlt hj
    by_cases he : (lastL x.f0 a).toList = x.f1.toList
    case neg =>
     rw [if_neg he] at h
     have hres := HRES.out
     unfold aplR at hres
     rw [← h] at hres
     obtain ⟨rfl, rfl⟩ := Prod.mk.inj hres
     have de : ((lastL x.f0 a).toList == x.f1.toList) = false := beq_eq_false_iff_ne.mpr he
     clear he h hres
     go_wp2_with (first
      | ((with_reducible refine gtD 9 ?_); refine xBx 9 75 #[.string ⟨#[]⟩, .string ⟨#[]⟩, .string ⟨#[]⟩] ?_; intro g hg w9 hbox hb; have GE := am (gTx hg HB.out); have NE := am (show b ≠ g by rw [hg]; exact Nat.ne_of_lt (PO_lt HP.out)); have BK := am hbox; replace HP := am (PO_below HP.out hb); replace HB := am (below_step HB.out hb); clear hb hbox hg; obtain ⟨b0, b1, b2, b3, b4, b5⟩ := bxC BK)
      | ((with_reducible refine gate_store (t := 75) (p := 9) rfl ?_); refine store_event (t := 75) (p := 9) (v := ?vo) (w1 := (((w9.setCell ⟨g, 0, none⟩ (.string x.f0)).setCell ⟨g, 1, none⟩ (.string x.f1)).setCell ⟨g, 2, none⟩ (.string x.f2))) ?hg ?ho ?hn ?hr ?_; (case ho => rfl); (case hg => rfl); (case hn => rfl); (case hr => first | (go_simp; done) | (go_simp; rfl)); intro w10 hw; have n0_ : Aside0 (w10.heap[g]? = some (.cells #[.string x.f0, .string x.f1, .string x.f2] 75 (0, 0))) := ⟨by rw [hw]; exact kBk⟩; replace HP := am (show PO w10 b (l0.length + j) a [] by rw [hw]; exact PO_set (PO_set (PO_set HP.out NE.out _) NE.out _) NE.out _); replace HB := am (show Below w.heap.size w w10 by rw [hw]; exact below_set (below_set (below_set HB.out GE.out) GE.out) GE.out); clear hw BK b0 b1 b2 b3 b4 b5; have BK := n0_; clear n0_; obtain ⟨b0, b1, b2, b3, b4, b5⟩ := bxC BK)
      | (at_lookup; refine wpList_lookup_pair rfl _ _ rfl b _ a [] rfl HP.out x.f0 rfl HSZ.out ?_))
     go_ret2
     exact ⟨_, rfl, Kd.R_nil _ _ _ _ _, HB.out⟩
    case pos =>
     rw [if_pos he] at h
     have HG := am h
     have de : ((lastL x.f0 a).toList == x.f1.toList) = true := beq_iff_eq.mpr he
     clear he h
     go_wp2_with (first
      | ((with_reducible refine gtD 9 ?_); refine xBx 9 75 #[.string ⟨#[]⟩, .string ⟨#[]⟩, .string ⟨#[]⟩] ?_; intro g hg w9 hbox hb; have GE := am (gTx hg HB.out); have NE := am (show b ≠ g by rw [hg]; exact Nat.ne_of_lt (PO_lt HP.out)); have BK := am hbox; replace HP := am (PO_below HP.out hb); replace HB := am (below_step HB.out hb); clear hb hbox hg; obtain ⟨b0, b1, b2, b3, b4, b5⟩ := bxC BK)
      | ((with_reducible refine gate_store (t := 75) (p := 9) rfl ?_); refine store_event (t := 75) (p := 9) (v := ?vo) (w1 := (((w9.setCell ⟨g, 0, none⟩ (.string x.f0)).setCell ⟨g, 1, none⟩ (.string x.f1)).setCell ⟨g, 2, none⟩ (.string x.f2))) ?hg ?ho ?hn ?hr ?_; (case ho => rfl); (case hg => rfl); (case hn => rfl); (case hr => first | (go_simp; done) | (go_simp; rfl)); intro w10 hw; have n0_ : Aside0 (w10.heap[g]? = some (.cells #[.string x.f0, .string x.f1, .string x.f2] 75 (0, 0))) := ⟨by rw [hw]; exact kBk⟩; replace HP := am (show PO w10 b (l0.length + j) a [] by rw [hw]; exact PO_set (PO_set (PO_set HP.out NE.out _) NE.out _) NE.out _); replace HB := am (show Below w.heap.size w w10 by rw [hw]; exact below_set (below_set (below_set HB.out GE.out) GE.out) GE.out); clear hw BK b0 b1 b2 b3 b4 b5; have BK := n0_; clear n0_; obtain ⟨b0, b1, b2, b3, b4, b5⟩ := bxC BK)
      | (at_lookup; refine wpList_lookup_pair rfl _ _ rfl b _ a [] rfl HP.out x.f0 rfl HSZ.out ?_)
      | (at_mapUpdate; refine wpList_update_pair rfl _ _ _ rfl b (l0.length + j) a [] (a ++ [⟨x.f0, x.f2⟩]) [] rfl HP.out (by have := okP_len HOK.out; have := okC_len HOC.out; have := Hlt.out; unfold maxLen; omega) x.f0 x.f2 ⟨#[]⟩ rfl rfl HSZ.out (fun D h => PM_chg h x.f0 x.f2 HSZ.out) ?_; intro w12 hM3 hg3; have HP3 := am hM3; replace HB := am (pw_below_grown HB.out _ (below_size HB.out) hg3 (fun k_ hk_ => by cases hk_; exact HGB.out)); clear hM3 hg3 HP))
     refine ⟨?rel, ?measure⟩
     case measure =>
      show l1.length - (wrap64 (jv + 1)).toNat < l1.length - jv.toNat
      have := Hjv.out
      have := Hlt.out
      have := okC_len HOC.out
      unfold wrap64
      omega
     case rel =>
      have hw1 : wrap64 (jv + 1) = ((j + 1 : Nat) : Int) := by have := Hjv.out; have := Hlt.out; have := okC_len HOC.out; unfold wrap64; omega
      exact ⟨j + 1, wrap64 (jv + 1), a ++ [⟨x.f0, x.f2⟩], by have := Hlt.out; omega, hw1, rfl, HG, HP3, ⟨by rw [List.length_append, HAL.out]; rfl⟩, ⟨fun n hn => by rcases List.mem_append.1 hn with hn | hn; exact HAS.out n hn; rw [List.mem_singleton.1 hn]; exact HSZ.out⟩, HB⟩
   case neg =>
    have hnl : ¬ (jv < (l1.length : Int)) := by omega
    have h := HG.out
    rw [List.drop_eq_nil_of_le (by omega), aplGo] at h
    have hres := HRES.out
    unfold aplR at hres
    rw [← h] at hres
    obtain ⟨rfl, rfl⟩ := Prod.mk.inj hres
    have hP := HP.out
    obtain rfl : j = l1.length := by omega
    replace HP := am hP
    have hi70 := index70
    clear h hres HG hP hjv hj hlt
    go_wp2_with (first
     | (go_at_call 44; refine (keysK_calls (some b) _).mono ?_; rintro _ w2 ⟨rfl, hw2⟩; have hP2 := (show PO w2 b (l0.length + l1.length) a [] by rw [hw2]; exact PO_below HP.out (below_alloc (Below.refl _ _) _)); replace HB := am (show Below w.heap.size w w2 by rw [hw2]; exact below_alloc HB.out _); have BKm := (show w2.heap[wr.heap.size]? = some (.cells #[.map (some b)] 67 (0, 0)) by rw [hw2]; exact heap_alloc_new _ _); have hlt2 : wr.heap.size < w2.heap.size := blk_lt BKm; clear hw2 HP; have HP := am hP2; clear hP2)
     | (go_at_call 43; refine (sortedA_calls wr.heap.size b (l0.length + l1.length) a _ hlt2 ((blk_cell BKm 0).trans rfl) HP.out (by have := okP_len HOK.out; have := okC_len HOC.out; omega)).mono ?_; rintro _ w3 ⟨v, rfl, hrow, hb⟩; replace HP := am (PO_below HP.out hb); replace HB := am (below_step HB.out hb); have HRW := am hrow; clear hb hrow BKm hlt2; obtain ⟨A3, c3, hv3⟩ := Kd.R_slice HRW.out; subst hv3))
    have HBw := HB
    clear HB
    have HCs := am (Kd.R_reads' HRW.out).2.2
    clear HRW
    have HPS := am (fun x (hx : x ∈ pathsL a) => (show x.size ≤ maxLen by obtain ⟨n, hn, rfl⟩ := (pathsL_mem _ _).1 hx; exact HAS.out n hn))
    have HLN := am (show (pathsL a).length ≤ 2000000000 by have := pathsL_len a; have := HAL.out; have := okP_len HOK.out; have := okC_len HOC.out; omega)
    have HDL := am (show aplL a = (pathsL a).filterMap (aplN a) from rfl)
    generalize pathsL a = ps at HCs HPS HLN HDL ⊢
    have HB := am (Below.refl w3.heap.size w3)
    go_loopw [10, 51] (fun v10 v51 wr => ∃ (j : Nat) (jv : Int), j ≤ ps.length ∧ jv = (j : Int) ∧ v51 = .int .i64 jv ∧ Aside0 (Kd.R k55 55 wr w3.heap.size (fun _ => True) v10 ((ps.take j).filterMap (aplN a))) ∧ Aside0 (Below w3.heap.size w3 wr)) (fun _ v51 _ => ps.length - (intOf v51).toNat)
    case atStart => exact ⟨0, 0, by omega, rfl, rfl, ⟨Kd.R_nil _ _ _ _ _⟩, HB⟩
    case round =>
     clear HB
     obtain ⟨j, jv, hj, hjv, rfl, HS, HB⟩ := hrel
     by_cases hlt : j < ps.length
     case neg =>
      have hnl2 : ¬ (jv < (ps.length : Int)) := by omega
      have hS := HS.out
      rw [List.take_of_length_le (by omega), ← HDL.out] at hS
      have HS2 := am hS
      clear hS HS
      go_wp2
      go_ret2
      exact ⟨_, rfl, Kd.R_lower HS2.out (below_size HBw.out), below_step HBw.out HB.out⟩
     case pos =>
      have p0 := eq_true (show (0 : Int) ≤ jv by omega)
      have q0 := eq_true (show jv < (ps.length : Int) by omega)
      have hp63 : ps.length ≤ 9223372036854775807 := by have := HLN.out; omega
      obtain ⟨ad, ead, hx0⟩ := Kd.at_string (Kd.C_below HCs.out HB.out) jv (by omega) (by omega)
      cases ead
      have hrd : rdOf ByteArray.empty ps jv = ps[j] := by rw [hjv]; simp [rdOf, List.getD_eq_getElem?_getD, hlt]
      obtain ⟨p, hp⟩ : ∃ p, p = ps[j] := ⟨_, rfl⟩
      rw [hrd, ← hp] at hx0
      have HSZ := am (HPS.out p (by rw [hp]; exact List.getElem_mem hlt))
      have HTK := am (show ps.take (j + 1) = ps.take j ++ [p] by rw [List.take_succ_eq_append_getElem hlt, hp])
      have Hjv := am hjv
      have Hlt := am hlt
      have HLF := am (show ((ps.take j).filterMap (aplN a)).length ≤ 2000000000 by have h1 := List.length_filterMap_le (aplN a) (ps.take j); have h2 := List.length_take_le j ps; have := HLN.out; omega)
      clear hp hrd hjv hlt hj
      by_cases hc : (lastL p a).toList = ([] : List UInt8)
      case pos =>
       have dn : ((lastL p a).toList == ([] : List UInt8)) = true := beq_iff_eq.mpr hc
       have HFE := am (show (ps.take (j + 1)).filterMap (aplN a) = (ps.take j).filterMap (aplN a) by rw [HTK.out]; exact filterMap_snoc_none (by unfold aplN; rw [if_pos hc]))
       clear hc HTK
       go_wp2_with (first | (at_lookup; refine wpList_lookup_pair rfl _ _ rfl b _ a [] rfl (PO_below HP.out HB.out) p rfl HSZ.out ?_))
       refine ⟨?rel, ?measure⟩
       case measure =>
        show ps.length - (wrap64 (jv + 1)).toNat < ps.length - jv.toNat
        have := Hjv.out
        have := Hlt.out
        have := HLN.out
        unfold wrap64
        omega
       case rel =>
        have hw1 : wrap64 (jv + 1) = ((j + 1 : Nat) : Int) := by have := Hjv.out; have := Hlt.out; have := HLN.out; unfold wrap64; omega
        exact ⟨j + 1, wrap64 (jv + 1), by have := Hlt.out; omega, hw1, rfl, ⟨by rw [HFE.out]; exact HS.out⟩, HB⟩
      case neg =>
       have dn : ((lastL p a).toList == ([] : List UInt8)) = false := beq_eq_false_iff_ne.mpr hc
       obtain ⟨xs, hxs⟩ : ∃ xs, xs = (ps.take j).filterMap (aplN a) := ⟨_, rfl⟩
       rw [← hxs] at HS HLF
       have HFE := am (show (ps.take (j + 1)).filterMap (aplN a) = xs ++ [(⟨p, lastL p a⟩ : S55)] by rw [HTK.out, hxs]; exact filterMap_snoc_some (by unfold aplN; rw [if_neg hc]))
       clear hc hxs HTK
       obtain ⟨A8, c8, hv8⟩ := Kd.R_slice HS.out
       subst hv8
       go_wp2_with (first
        | (at_lookup; refine wpList_lookup_pair rfl _ _ rfl b _ a [] rfl (PO_below HP.out HB.out) p rfl HSZ.out ?_)
        | ((with_reducible refine gate_builtin (b := .append) (xs := #[.tmp 61, .tmp 65]) rfl ?_); at_builtin; refine Kd.R_append k55 (w0 := w3) w3.heap.size rfl (.tmp 61) (.tmp 65) 22 55 (.agg #[(.string ⟨#[]⟩), (.string ⟨#[]⟩)]) 32 rfl Tryz.underlying22 info55 rfl (by decide) (by omega) (.slice A8 xs.length c8) xs (⟨p, lastL p a⟩ : S55) [.string p, .string (lastL p a)] (fun _ => True) (fun _ => False) rfl rfl ?aP (fun _ hk => hk.elim) ?aF ?aO ?aB ?aS ?aL ?_; (case aP => exact k55_mkM _ _ _ (⟨p, lastL p a⟩ : S55)); (case aB => exact HB.out); (case aF => exact (fun _ _ => trivial)); (case aO => exact HS.out); (case aS => exact (below_size HB.out)); (case aL => have := HLF.out; omega); intro dg w12 ho hb hg hat; replace HB := am hb; have HS2 := am ho; clear HS ho hb hg hat))
       refine ⟨?rel, ?measure⟩
       case measure =>
        show ps.length - (wrap64 (jv + 1)).toNat < ps.length - jv.toNat
        have := Hjv.out
        have := Hlt.out
        have := HLN.out
        unfold wrap64
        omega
       case rel =>
        have hw1 : wrap64 (jv + 1) = ((j + 1 : Nat) : Int) := by have := Hjv.out; have := Hlt.out; have := HLN.out; unfold wrap64; omega
        exact ⟨j + 1, wrap64 (jv + 1), by have := Hlt.out; omega, hw1, rfl, ⟨by rw [HFE.out]; exact HS2.out⟩, HB⟩

end Go.Proofs.YtknmfmedklfepaaGreatDoor.P
