-- Written by this project's own program (wip/tools/hp.py), driving the kit's print; hand texts among it. Not trusted: Lean checks it.
-- half the indentation
import Derived.Test.YtjneghnknfhboaaDoorP0
import Derived.Test.YtjneghnknfhboaaDoorP16
namespace Go.Proofs.YtjneghnknfhboaaDoor.P
open Go.RowKit Go.Proofs.YtjneghnknfhboaaDoorW.PrintWords Go.Proofs.YtjneghnknfhboaaDoorW.PrintLast Go.Proofs.YtjneghnknfhboaaDoorW.PrintMore
attribute [local go_sem] max2_int min2_int max_two min_two max_three min_three max_four min_four   -- for this text's walks alone
set_option linter.unusedVariables false
set_option linter.unusedSimpArgs false

/-! ### HAND intern_All -/
/-- A node's place among some. -/
def ixN (p v : ByteArray) : List S34 → Option Nat
 | [] => none
 | x :: l => if x.f0 = p ∧ x.f1 = v then some 0 else (ixN p v l).map (· + 1)
def okN (p v : ByteArray) : Bool := decide (p.size ≤ 1000000000 ∧ v.size ≤ 1000000000)
def tabGo (k : Nat) : List S34 → List S34 → Option Bool
 | [], _ => some true
 | n :: l, seen => if okN n.f0 n.f1 = true then (if (ixN n.f0 n.f1 seen).isSome = true then some false else (node_May.f k n.f0 n.f1).bind fun y => if y = true then tabGo k l (seen ++ [n]) else some false) else none
def tabF (k : Nat) (l : List S34) : Option Bool := if l.length ≤ 1000000000 then tabGo k l [] else none
def intern_Check.f (k : Nat) (l0_0 : List S34) : Option Int := (tabF k l0_0).bind fun ok => some (if ok = true then 0 else 1)
def findOf : Option Nat → Int × Int
 | some i => ((i : Int), 0)
 | none => (0, 2)
def intern_Find.f (k : Nat) (l0_0 : List S34) (a1_0 : ByteArray) (a1_1 : ByteArray) : Option (Int × Int) :=
 (tabF k l0_0).bind fun ok => if ok = true then ((node_May.f k a1_0 a1_1).bind fun y => if y = true then (if okN a1_0 a1_1 = true then some (findOf (ixN a1_0 a1_1 l0_0)) else none) else some (0, 1)) else some (0, 1)
def allGo (k : Nat) (m : List S34) : List S34 → List S34 → List Int → Option (List Int × List S34 × Int)
 | [], names, out => some (out, names, 0)
 | n :: l, names, out => (node_May.f k n.f0 n.f1).bind fun y => if y = true then (if okN n.f0 n.f1 = true then (match ixN n.f0 n.f1 names with
   | some i => allGo k m l names (out ++ [(i : Int)])
   | none => allGo k m l (names ++ [n]) (out ++ [(names.length : Int)])) else none) else some ([], m, 1)
def intern_All.f (k : Nat) (l0_0 : List S34) (l1 : List S34) : Option (List Int × List S34 × Int) :=
 (tabF k l0_0).bind fun ok => if ok = true then (if l0_0.length + l1.length ≤ 1000000000 then allGo k l0_0 l1 l0_0 [] else none) else some ([], l0_0, 1)
def atGo (m : List S34) : List Int → List S34 → Option (List S34 × Int)
 | [], out => some (out, 0)
 | i :: l, out => if 0 ≤ i ∧ i < (m.length : Int) then atGo m l (out ++ [rd_T34 m i]) else some ([], 2)
def intern_At.f (k : Nat) (l0_0 : List S34) (l1 : List Int) : Option (List S34 × Int) :=
 (tabF k l0_0).bind fun ok => if ok = true then (if l1.length ≤ 1000000000 then atGo l0_0 l1 [] else none) else some ([], 1)
theorem tabGo_mono (k : Nat) : ∀ l s, LeO (tabGo k l s) (tabGo (k + 1) l s)
 | [], s => LeO.refl _
 | n :: l, s => by
  unfold tabGo
  refine LeO.ite ?_ (LeO.refl _)
  refine LeO.ite (LeO.refl _) ?_
  refine LeO.bind (node_May.mono _ _ _) (fun _ => ?_)
  exact LeO.ite (tabGo_mono k l _) (LeO.refl _)
theorem tabF_mono (k : Nat) (l : List S34) : LeO (tabF k l) (tabF (k + 1) l) := by
 unfold tabF
 exact LeO.ite (tabGo_mono k l _) (LeO.refl _)
theorem intern_Check.mono : ∀ l0_0 k, LeO (intern_Check.f k l0_0) (intern_Check.f (k + 1) l0_0) := by
 intro l k
 exact LeO.bind (tabF_mono k l) (fun _ => LeO.refl _)
theorem intern_Find.mono : ∀ l0_0 a1_0 a1_1 k, LeO (intern_Find.f k l0_0 a1_0 a1_1) (intern_Find.f (k + 1) l0_0 a1_0 a1_1) := by
 intro l p v k
 refine LeO.bind (tabF_mono k l) (fun _ => ?_)
 refine LeO.ite ?_ (LeO.refl _)
 exact LeO.bind (node_May.mono _ _ _) (fun _ => LeO.refl _)
theorem allGo_mono (k : Nat) (m : List S34) : ∀ l s o, LeO (allGo k m l s o) (allGo (k + 1) m l s o)
 | [], s, o => LeO.refl _
 | n :: l, s, o => by
  unfold allGo
  refine LeO.bind (node_May.mono _ _ _) (fun _ => ?_)
  refine LeO.ite ?_ (LeO.refl _)
  refine LeO.ite ?_ (LeO.refl _)
  cases ixN n.f0 n.f1 s with
  | none => exact allGo_mono k m l _ _
  | some i => exact allGo_mono k m l _ _
theorem intern_All.mono : ∀ l0_0 l1 k, LeO (intern_All.f k l0_0 l1) (intern_All.f (k + 1) l0_0 l1) := by
 intro l l1 k
 refine LeO.bind (tabF_mono k l) (fun _ => ?_)
 refine LeO.ite ?_ (LeO.refl _)
 exact LeO.ite (allGo_mono k l l1 _ _) (LeO.refl _)
theorem intern_At.mono : ∀ l0_0 l1 k, LeO (intern_At.f k l0_0 l1) (intern_At.f (k + 1) l0_0 l1) := by
 intro l l1 k
 exact LeO.bind (tabF_mono k l) (fun _ => LeO.refl _)
/-! ### the map: a node's number -/
open Go.Maps in
theorem keyed_node : Keyed Tryd.prog 34 := Keyed.of_law (deep_law_laid (by kernel_rfl) (m := 2) (by omega) (of_decide_eq_true (by kernel_rfl)) (by kernel_rfl) (by rw [Tryd.underlying34]))
theorem zero_int (w : World) : (zeroValue 3).run Tryd.prog w = .ok (.int .i64 0) w := by kernel_rfl
def keyL (p v : ByteArray) : Lit := .string (keyBytes [.string p.data.toList, .string v.data.toList])
theorem okN_le {p v : ByteArray} (h : okN p v = true) : p.size ≤ maxLen ∧ v.size ≤ maxLen := by
 unfold okN at h
 rw [decide_eq_true_eq] at h
 unfold maxLen
 omega
theorem keyOf_node {p v : ByteArray} (h : okN p v = true) : keyOf Tryd.prog 34 (.agg #[.string p, .string v]) = some (keyL p v) := by
 obtain ⟨h1, h2⟩ := okN_le h
 have hs : ∃ n, Tryd.prog.types.size = n + 1 := ⟨Tryd.prog.types.size - 1, by have : 0 < Tryd.prog.types.size := of_decide_eq_true (by kernel_rfl); omega⟩
 obtain ⟨n, hn⟩ := hs
 have hk : Tryd.prog.keyType 34 = true := by kernel_rfl
 have hc : Tryd.prog.cellsOf 34 = 2 := by kernel_rfl
 have hc9 : Tryd.prog.cellsOf 9 = 1 := by kernel_rfl
 have hu9 := Tryd.underlying9
 unfold keyOf
 rw [hn]
 simp [Tryd.underlying34, hk, Value.formed, hc, Value.cells, Program.keyLits, hc9, hu9, h1, h2, keyL]
open Go.Maps in
/-- Block b is a map of just these nodes' numbers. -/
def MapIs (D : DataW Unit) (l : List S34) : Prop := Maps.IsMap D ∧ ∀ p v, okN p v = true → Maps.has D (keyL p v) = (ixN p v l).isSome ∧ ∀ i, ixN p v l = some i → D.atKey (keyL p v) (.lit (.int .i64 0)) = .lit (.int .i64 (i : Int))
def MO (w : World) (b : Nat) (l : List S34) : Prop := ∃ D : DataW Unit, w.ownsMap Tryd.prog 34 (plainElem Tryd.prog 3) b l.length D ∧ MapIs D l
theorem keyL_inj {p v p' v' : ByteArray} (h : okN p v = true) (h' : okN p' v' = true) (e : keyL p v = keyL p' v') : p = p' ∧ v = v' := by
 have h1 := keyOf_node h
 have h2 := keyOf_node h'
 rw [← e] at h2
 have h3 := keyed_node.inj h1 h2
 simp only [Value.agg.injEq, Array.mk.injEq, List.cons.injEq, Value.string.injEq] at h3
 exact ⟨h3.1, h3.2.1⟩
theorem ixN_snoc (p v q u : ByteArray) (h : ¬ (q = p ∧ u = v)) : ∀ l : List S34, ixN p v (l ++ [⟨q, u⟩]) = ixN p v l
 | [] => by simp [ixN, h]
 | x :: l => by rw [List.cons_append, ixN, ixN, ixN_snoc p v q u h l]
theorem ixN_snoc_same (p v : ByteArray) : ∀ l : List S34, ixN p v l = none → ixN p v (l ++ [⟨p, v⟩]) = some l.length
 | [], _ => by rw [List.nil_append, ixN, if_pos ⟨rfl, rfl⟩]; rfl
 | x :: l, h => by
  rw [ixN] at h
  rw [List.cons_append, ixN]
  by_cases hx : x.f0 = p ∧ x.f1 = v
  ·rw [if_pos hx] at h; cases h
  ·rw [if_neg hx] at h ⊢
   have h' : ixN p v l = none := by
    cases hh : ixN p v l with
    | none => rfl
    | some i => rw [hh] at h; cases h
   rw [ixN_snoc_same p v l h']; rfl
theorem mapIs_nil : MapIs (.map []) [] := ⟨⟨[], rfl⟩, fun p v _ => ⟨rfl, fun i h => by cases h⟩⟩
theorem mapIs_put {D : DataW Unit} {l : List S34} (h : MapIs D l) {p v : ByteArray} (hok : okN p v = true) (hn : ixN p v l = none) : MapIs (D.put (keyL p v) (.lit (.int .i64 (l.length : Int)))) (l ++ [⟨p, v⟩]) := by
 obtain ⟨h1, h2⟩ := h
 have hk : WideAt.IsKeyLit (keyL p v) := keyed_node.key (keyOf_node hok)
 refine ⟨h1.put _ _, fun q u hq => ?_⟩
 by_cases e : p = q ∧ v = u
 ·obtain ⟨rfl, rfl⟩ := e
  rw [ixN_snoc_same p v l hn, Maps.has_put_same h1 hk]
  refine ⟨rfl, fun i hi => ?_⟩
  obtain rfl := Option.some.inj hi
  exact Maps.atKey_put_same h1 hk _ _
 ·have hne : keyL q u ≠ keyL p v := fun e' => e (by obtain ⟨a, b⟩ := keyL_inj hq hok e'; exact ⟨a.symm, b.symm⟩)
  rw [ixN_snoc q u p v e, Maps.has_put_other hne, Maps.atKey_put_other hne]
  exact h2 q u hq
theorem MO_same {w w' : World} {b : Nat} {l : List S34} (h : MO w b l) (hb : w'.heap[b]? = w.heap[b]?) : MO w' b l := by
 obtain ⟨D, ⟨es, clock, h1, h2⟩, h3⟩ := h
 exact ⟨D, ⟨es, clock, hb.trans h1, h2⟩, h3⟩
theorem MO_lt {w : World} {b : Nat} {l : List S34} (h : MO w b l) : b < w.heap.size := by
 obtain ⟨D, ⟨es, clock, h1, h2⟩, h3⟩ := h
 exact (Array.getElem?_eq_some_iff.1 h1).1
theorem MO_below {w w' : World} {b : Nat} {l : List S34} (h : MO w b l) (hb : Below w.heap.size w w') : MO w' b l := MO_same h (hb.block b (MO_lt h))
theorem MO_set {w : World} {b : Nat} {l : List S34} (h : MO w b l) {a : Addr} (ha : b ≠ a.block) (u : Value) : MO (w.setCell a u) b l := MO_same h (Below.heap_setCell w a u b ha)
theorem MO_ne {w : World} {b : Nat} {l : List S34} (h : MO w b l) {g : Nat} {cs : Array Value} {t : TypeId} (hg : w.heap[g]? = some (.cells cs t (0, 0))) : b ≠ g := by
 rintro rfl
 obtain ⟨D, ⟨es, clock, h1, h2⟩, h3⟩ := h
 rw [h1] at hg
 cases hg
theorem MO_new (w : World) : MO (w.alloc (.map #[] 0)) w.heap.size [] := ⟨.map [], World.ownsMap_made _ _ _ _, mapIs_nil⟩
set_option maxRecDepth 100000 in
set_option maxHeartbeats 4000000 in
theorem table_calls (k : Nat) (A0 : Option Addr) (c0 : Nat) (l : List S34) (ok : Bool) (w : World) (hr : Kd.C k34 w A0 l.length l) (h : tabF k l = some ok) :
  Calls Tryd.prog 24 #[.agg #[.slice A0 l.length c0]] w fun e w' => ∃ m : Option Nat, e = .returned (.tuple #[.map m, .bool ok]) ∧ Below w.heap.size w w' ∧ (ok = true → ∃ b, m = some b ∧ w.heap.size ≤ b ∧ MO w' b l) := by
 have HR0 := Aside0.mk hr
 clear hr
 have HB := Aside0.mk (Below.refl w.heap.size w)
 unfold tabF at h
 by_cases hlen : l.length ≤ 1000000000
 case neg => rw [if_neg hlen] at h; cases h
 rw [if_pos hlen] at h
 have H := Aside0.mk h
 have HL := Aside0.mk hlen
 clear h hlen
 have hmm := @run_makeMap Tryd.prog
 have huN := Tryd.underlying34
 have huM := Tryd.underlying24
 go_enter Tryd.func24, Tryd.ntmps24
 go_wp2_with (first
  | ((with_reducible refine gate_dst (N := 1) rfl ?_); refine box_event ?hg (N := 1) ?hd (cs := #[.slice A0 l.length c0]) (t := 24) ?hr ?_; (case hd => rfl); (case hg => rfl); (case hr => first | (go_simp; done) | (go_simp; rfl)); intro gb hg w7 hbox hb; have n0_ := Aside0.mk (below_step HB.out hb); clear HB; have HB := n0_; have BK := Aside0.mk hbox; clear n0_ hb hbox hg)
  | ((with_reducible refine gate_dst (N := 9) rfl ?_); refine Kd.event_run (v := .map (some w7.heap.size)) (w1 := w7.alloc (.map #[] 0)) rfl ?hr ?_; (case hr => first | (go_simp; done) | (go_simp; rfl)); have HM := Aside0.mk (MO_new w7); have GW := Aside0.mk (below_size HB.out); have n0_ := Aside0.mk (below_alloc HB.out (.map #[] 0)); have n1_ := Aside0.mk (blk_alloc BK.out (.map #[] 0)); clear HB BK; have HB := n0_; have BK := n1_; clear n0_ n1_; generalize w7.heap.size = mb at HM GW ⊢; generalize w7.alloc (.map #[] 0) = w8 at HM HB BK ⊢; have hcz0 : w8.cell? ⟨gb, 0, none⟩ = some (.slice A0 l.length c0) := (blk_cell BK.out 0).trans rfl))
 clear hcz0
 go_loopw [13] (fun v13 wr => ∃ (j : Nat) (jv : Int), j ≤ l.length ∧ jv = (j : Int) ∧ v13 = .int .i64 jv ∧ Aside0 (tabGo k (l.drop j) (l.take j) = some ok) ∧ Aside0 (MO wr mb (l.take j)) ∧ Aside0 (Below w.heap.size w wr)) (fun v13 _ => l.length - (intOf v13).toNat)
 case atStart => exact ⟨0, 0, by omega, rfl, rfl, ⟨by rw [List.take_zero, List.drop_zero]; exact H.out⟩, ⟨by rw [List.take_zero]; exact HM.out⟩, HB⟩
 case round =>
  clear HB BK H HM
  obtain ⟨j, jv, hj, hjv, rfl, H, HM, HB⟩ := hrel
  by_cases hlt : j < l.length
  case neg =>
   have hnl : ¬ (jv < (l.length : Int)) := by omega
   have h := H.out
   rw [List.drop_eq_nil_of_le (by omega)] at h
   obtain rfl : ok = true := (Option.some.inj h).symm
   have hM := HM.out
   rw [List.take_of_length_le (by omega)] at hM
   have HM := Aside0.mk hM
   clear h H hM
   go_wp2
   go_ret2
   exact ⟨_, rfl, HB.out, _, rfl, GW.out, HM.out⟩
  case pos =>
   have p0 : (0 : Int) ≤ jv := by omega
   have q0 : jv < (l.length : Int) := by omega
   obtain ⟨ad, ead, hx0, hx1⟩ := at_T34 (Kd.C_below HR0.out HB.out) jv p0 q0
   cases ead
   have hrd : rd_T34 l jv = l[j] := by rw [hjv]; simp [rd_T34, rdOf, List.getD_eq_getElem?_getD, hlt]
   obtain ⟨n, hn⟩ : ∃ n, n = l[j] := ⟨_, rfl⟩
   rw [hrd, ← hn] at hx0 hx1
   have h := H.out
   rw [List.drop_eq_getElem_cons hlt, ← hn, tabGo] at h
   have htk : l.take (j + 1) = l.take j ++ [n] := by rw [List.take_succ_eq_append_getElem hlt, hn]
   have HTK := Aside0.mk htk
   clear hn hrd H htk
   by_cases hok : okN n.f0 n.f1 = true
   case neg => rw [if_neg hok] at h; cases h
   rw [if_pos hok] at h
   obtain ⟨p, v⟩ := n
   simp only at hx0 hx1 h hok
   have hlen : l.length ≤ 9223372036854775807 := by have := HL.out; omega
   have Hjv := Aside0.mk hjv
   have Hlt := Aside0.mk hlt
   clear hjv hlt hj
   replace p0 := eq_true p0
   replace q0 := eq_true q0
   have hkey := keyOf_node hok
   have HOK := Aside0.mk hok
   clear hok
   by_cases hmet : (ixN p v (l.take j)).isSome = true
   ·rw [if_pos hmet] at h
    obtain rfl : ok = false := (Option.some.inj h).symm
    have Hmet := Aside0.mk hmet
    clear h hmet
    go_wp2_with (first
     | ((with_reducible refine gate_dst (N := 6) rfl ?_); refine box_event ?hg (N := 6) ?hd (cs := #[.string ⟨#[]⟩, .string ⟨#[]⟩]) (t := 34) ?hr ?_; (case hd => rfl); (case hg => rfl); (case hr => first | (go_simp; done) | (go_simp; rfl)); intro g6 hg w9 hbox hb; have n0_ := Aside0.mk (below_step HB.out hb); have n1_ := Aside0.mk (MO_below HM.out hb); have NE := Aside0.mk (show mb ≠ g6 by rw [hg]; exact Nat.ne_of_lt (MO_lt HM.out)); have GE := Aside0.mk (show w.heap.size ≤ g6 by rw [hg]; exact below_size HB.out); have BK6 := Aside0.mk hbox; clear HB HM hb hbox hg; have HB := n0_; have HM := n1_; clear n0_ n1_; have hcx0 : w9.cell? ⟨g6, 0, none⟩ = some (.string ⟨#[]⟩) := (blk_cell BK6.out 0).trans rfl; have hcx1 : w9.cell? ⟨g6, 1, none⟩ = some (.string ⟨#[]⟩) := (blk_cell BK6.out 1).trans rfl; have hfx0 := blk_frozen BK6.out 0; have hfx1 := blk_frozen BK6.out 1)
     | ((with_reducible refine gate_store (t := 34) (p := 6) rfl ?_); refine store_event (t := 34) (p := 6) (v := ?vo) (w1 := ((w9.setCell ⟨g6, 0, none⟩ (.string p)).setCell ⟨g6, 1, none⟩ (.string v))) ?hg ?ho ?hn ?hr ?_; (case ho => rfl); (case hg => rfl); (case hn => rfl); (case hr => first | (go_simp; done) | (go_simp; rfl)); intro w10 hw; have n0_ : Aside0 (w10.heap[g6]? = some (.cells #[.string p, .string v] 34 (0, 0))) := ⟨by rw [hw]; refine blk_put (cs := #[.string p, .string ⟨#[]⟩]) ?_ 1 _ rfl; exact blk_put BK6.out 0 _ rfl⟩; have n1_ : Aside0 (MO w10 mb (l.take j)) := ⟨by rw [hw]; exact MO_set (MO_set HM.out NE.out _) NE.out _⟩; have n2_ : Aside0 (Below w.heap.size w w10) := ⟨by rw [hw]; exact below_set (below_set HB.out GE.out) GE.out⟩; clear hw HB HM BK6; have BK6 := n0_; have HM := n1_; have HB := n2_; clear n0_ n1_ n2_; have hcz0 : w10.cell? ⟨g6, 0, none⟩ = some (.string p) := (blk_cell BK6.out 0).trans rfl; have hcz1 : w10.cell? ⟨g6, 1, none⟩ = some (.string v) := (blk_cell BK6.out 1).trans rfl; obtain ⟨D, hown, hD⟩ := HM.out; have hhas := (hD.2 p v HOK.out).1; rw [Hmet.out] at hhas; clear hD)
     | (at_lookup; refine wpList_lookup_own_ok_int _ rfl _ _ 53 rfl 34 3 .i64 keyed_node Tryd.underlying53 Tryd.underlying3 (zero_int _) mb _ D rfl hown _ _ rfl hkey ?_; intro c hat hwc; rw [hhas]))
    go_ret2
    exact ⟨_, rfl, HB.out, fun h => by cases h⟩
   ·rw [if_neg hmet] at h
    have hmet' : (ixN p v (l.take j)).isSome = false := by simpa using hmet
    have Hmet := Aside0.mk hmet'
    clear hmet hmet'
    obtain ⟨y, hy, h⟩ := Option.bind_eq_some_iff.mp h
    have Hy := Aside0.mk hy
    clear hy
    cases y with
    | false =>
     rw [if_neg (by decide)] at h
     obtain rfl : ok = false := (Option.some.inj h).symm
     clear h
     go_wp2_with (first
      | ((with_reducible refine gate_dst (N := 6) rfl ?_); refine box_event ?hg (N := 6) ?hd (cs := #[.string ⟨#[]⟩, .string ⟨#[]⟩]) (t := 34) ?hr ?_; (case hd => rfl); (case hg => rfl); (case hr => first | (go_simp; done) | (go_simp; rfl)); intro g6 hg w9 hbox hb; have n0_ := Aside0.mk (below_step HB.out hb); have n1_ := Aside0.mk (MO_below HM.out hb); have NE := Aside0.mk (show mb ≠ g6 by rw [hg]; exact Nat.ne_of_lt (MO_lt HM.out)); have GE := Aside0.mk (show w.heap.size ≤ g6 by rw [hg]; exact below_size HB.out); have BK6 := Aside0.mk hbox; clear HB HM hb hbox hg; have HB := n0_; have HM := n1_; clear n0_ n1_; have hcx0 : w9.cell? ⟨g6, 0, none⟩ = some (.string ⟨#[]⟩) := (blk_cell BK6.out 0).trans rfl; have hcx1 : w9.cell? ⟨g6, 1, none⟩ = some (.string ⟨#[]⟩) := (blk_cell BK6.out 1).trans rfl; have hfx0 := blk_frozen BK6.out 0; have hfx1 := blk_frozen BK6.out 1)
      | ((with_reducible refine gate_store (t := 34) (p := 6) rfl ?_); refine store_event (t := 34) (p := 6) (v := ?vo) (w1 := ((w9.setCell ⟨g6, 0, none⟩ (.string p)).setCell ⟨g6, 1, none⟩ (.string v))) ?hg ?ho ?hn ?hr ?_; (case ho => rfl); (case hg => rfl); (case hn => rfl); (case hr => first | (go_simp; done) | (go_simp; rfl)); intro w10 hw; have n0_ : Aside0 (w10.heap[g6]? = some (.cells #[.string p, .string v] 34 (0, 0))) := ⟨by rw [hw]; refine blk_put (cs := #[.string p, .string ⟨#[]⟩]) ?_ 1 _ rfl; exact blk_put BK6.out 0 _ rfl⟩; have n1_ : Aside0 (MO w10 mb (l.take j)) := ⟨by rw [hw]; exact MO_set (MO_set HM.out NE.out _) NE.out _⟩; have n2_ : Aside0 (Below w.heap.size w w10) := ⟨by rw [hw]; exact below_set (below_set HB.out GE.out) GE.out⟩; clear hw HB HM BK6; have BK6 := n0_; have HM := n1_; have HB := n2_; clear n0_ n1_ n2_; have hcz0 : w10.cell? ⟨g6, 0, none⟩ = some (.string p) := (blk_cell BK6.out 0).trans rfl; have hcz1 : w10.cell? ⟨g6, 1, none⟩ = some (.string v) := (blk_cell BK6.out 1).trans rfl; obtain ⟨D, hown, hD⟩ := HM.out; have hhas := (hD.2 p v HOK.out).1; rw [Hmet.out] at hhas; clear hD)
      | (at_lookup; refine wpList_lookup_own_ok_int _ rfl _ _ 53 rfl 34 3 .i64 keyed_node Tryd.underlying53 Tryd.underlying3 (zero_int _) mb _ D rfl hown _ _ rfl hkey ?_; intro c hat hwc; rw [hhas])
      | (go_at_call 26; refine (node_May.calls k p v false _ Hy.out).mono ?_; rintro e w11 ⟨rfl, hb⟩; have n0_ := Aside0.mk (below_step HB.out hb); clear HB hb; have HB := n0_; clear n0_))
     go_ret2
     exact ⟨_, rfl, HB.out, fun h => by cases h⟩
    | true =>
     rw [if_pos rfl] at h
     have H := Aside0.mk h
     clear h
     have hwf : (Lit.int .i64 jv).wf = true := WalkArith.wf_i64 (by have := HL.out; have := Hjv.out; have := Hlt.out; omega)
     have hlj : (l.take j).length = j := by rw [List.length_take]; have := Hlt.out; omega
     have Hlj := Aside0.mk hlj
     clear hlj
     go_wp2_with (first
      | ((with_reducible refine gate_dst (N := 6) rfl ?_); refine box_event ?hg (N := 6) ?hd (cs := #[.string ⟨#[]⟩, .string ⟨#[]⟩]) (t := 34) ?hr ?_; (case hd => rfl); (case hg => rfl); (case hr => first | (go_simp; done) | (go_simp; rfl)); intro g6 hg w9 hbox hb; have n0_ := Aside0.mk (below_step HB.out hb); have n1_ := Aside0.mk (MO_below HM.out hb); have NE := Aside0.mk (show mb ≠ g6 by rw [hg]; exact Nat.ne_of_lt (MO_lt HM.out)); have GE := Aside0.mk (show w.heap.size ≤ g6 by rw [hg]; exact below_size HB.out); have BK6 := Aside0.mk hbox; clear HB HM hb hbox hg; have HB := n0_; have HM := n1_; clear n0_ n1_; have hcx0 : w9.cell? ⟨g6, 0, none⟩ = some (.string ⟨#[]⟩) := (blk_cell BK6.out 0).trans rfl; have hcx1 : w9.cell? ⟨g6, 1, none⟩ = some (.string ⟨#[]⟩) := (blk_cell BK6.out 1).trans rfl; have hfx0 := blk_frozen BK6.out 0; have hfx1 := blk_frozen BK6.out 1)
      | ((with_reducible refine gate_store (t := 34) (p := 6) rfl ?_); refine store_event (t := 34) (p := 6) (v := ?vo) (w1 := ((w9.setCell ⟨g6, 0, none⟩ (.string p)).setCell ⟨g6, 1, none⟩ (.string v))) ?hg ?ho ?hn ?hr ?_; (case ho => rfl); (case hg => rfl); (case hn => rfl); (case hr => first | (go_simp; done) | (go_simp; rfl)); intro w10 hw; have n0_ : Aside0 (w10.heap[g6]? = some (.cells #[.string p, .string v] 34 (0, 0))) := ⟨by rw [hw]; refine blk_put (cs := #[.string p, .string ⟨#[]⟩]) ?_ 1 _ rfl; exact blk_put BK6.out 0 _ rfl⟩; have n1_ : Aside0 (MO w10 mb (l.take j)) := ⟨by rw [hw]; exact MO_set (MO_set HM.out NE.out _) NE.out _⟩; have n2_ : Aside0 (Below w.heap.size w w10) := ⟨by rw [hw]; exact below_set (below_set HB.out GE.out) GE.out⟩; clear hw HB HM BK6; have BK6 := n0_; have HM := n1_; have HB := n2_; clear n0_ n1_ n2_; have hcz0 : w10.cell? ⟨g6, 0, none⟩ = some (.string p) := (blk_cell BK6.out 0).trans rfl; have hcz1 : w10.cell? ⟨g6, 1, none⟩ = some (.string v) := (blk_cell BK6.out 1).trans rfl; obtain ⟨D, hown, hD⟩ := HM.out; have hhas := (hD.2 p v HOK.out).1; rw [Hmet.out] at hhas; clear hD)
      | (at_lookup; refine wpList_lookup_own_ok_int _ rfl _ _ 53 rfl 34 3 .i64 keyed_node Tryd.underlying53 Tryd.underlying3 (zero_int _) mb _ D rfl hown _ _ rfl hkey ?_; intro c hat hwc; rw [hhas])
      | (go_at_call 26; refine (node_May.calls k p v true _ Hy.out).mono ?_; rintro e w11 ⟨rfl, hb⟩; have n0_ := Aside0.mk (below_step HB.out hb); have n1_ := Aside0.mk (blk_below BK6.out hb); have n2_ := Aside0.mk (MO_below HM.out hb); clear HB BK6 HM hb; have HB := n0_; have BK6 := n1_; have HM := n2_; clear n0_ n1_ n2_; have hcy0 : w11.cell? ⟨g6, 0, none⟩ = some (.string p) := (blk_cell BK6.out 0).trans rfl; have hcy1 : w11.cell? ⟨g6, 1, none⟩ = some (.string v) := (blk_cell BK6.out 1).trans rfl; obtain ⟨D2, hown2, hE⟩ := HM.out; have HE := Aside0.mk hE; clear hE)
      | (at_mapUpdate; refine wpList_mapUpdate_own _ rfl _ _ _ 53 rfl 34 3 keyed_node Tryd.underlying53 _ mb _ D2 rfl hown2 (by have := Hlj.out; have := Hlt.out; have := HL.out; unfold maxLen; omega) _ _ _ rfl rfl hkey _ [] (plainElem_int Tryd.underlying3 hwf) ?_; intro w12 hown3 hgrow3))
     refine ⟨?rel, ?measure⟩
     case measure =>
      show l.length - (wrap64 (jv + 1)).toNat < l.length - jv.toNat
      have := Hjv.out
      have := Hlt.out
      have := HL.out
      unfold wrap64
      omega
     case rel =>
      have hw1 : wrap64 (jv + 1) = ((j + 1 : Nat) : Int) := by have := Hjv.out; have := Hlt.out; have := HL.out; unfold wrap64; omega
      have hnone : ixN p v (l.take j) = none := by
       have := Hmet.out
       cases hh : ixN p v (l.take j) with
       | none => rfl
       | some i => rw [hh] at this; cases this
      have ejv : jv = ((l.take j).length : Int) := by rw [Hlj.out]; exact Hjv.out
      refine ⟨j + 1, wrap64 (jv + 1), by have := Hlt.out; omega, hw1, rfl, ⟨?_⟩, ⟨?_⟩, ⟨pw_below_grown HB.out _ (below_size HB.out) hgrow3 (fun k_ hk_ => by cases hk_; exact GW.out)⟩⟩
      ·rw [HTK.out]; exact H.out
      ·rw [HTK.out]
       refine ⟨_, ?_, mapIs_put HE.out HOK.out hnone⟩
       rw [List.length_append, ← ejv]
       exact hown3
set_option maxRecDepth 100000 in
set_option maxHeartbeats 4000000 in
theorem intern_Check.calls (k : Nat) (A0_0 : Option Addr) (c0_0 : Nat) (l0_0 : List (S34)) (r : Int) (w : World) (hr0_0 : Kd.C k34 w A0_0 l0_0.length l0_0) (hc0_0 : l0_0.length ≤ c0_0) (h : intern_Check.f k l0_0 = some r) :
  Calls Tryd.prog 17 #[.agg #[.slice A0_0 l0_0.length c0_0]] w fun e w' => e = .returned (.int .i64 r) ∧ Below w.heap.size w w' := by
 have HR0 := Aside0.mk hr0_0
 clear hr0_0 hc0_0
 have HB := Aside0.mk (Below.refl w.heap.size w)
 unfold intern_Check.f at h
 obtain ⟨ok, hok, h⟩ := Option.bind_eq_some_iff.mp h
 have Hok := Aside0.mk hok
 have hr := Option.some.inj h
 clear hok h
 have huM := Tryd.underlying24
 cases ok with
 | false =>
  rw [if_neg (by decide)] at hr
  subst hr
  go_enter Tryd.func17, Tryd.ntmps17
  go_wp2_with (first | ((with_reducible refine gate_dst (N := 1) rfl ?_); refine box_event ?hg (N := 1) ?hd (cs := #[.slice A0_0 l0_0.length c0_0]) (t := 24) ?hr ?_; (case hd => rfl); (case hg => rfl); (case hr => first | (go_simp; done) | (go_simp; rfl)); intro g1 hg w3 hbox hb; have n0_ := Aside0.mk (below_step HB.out hb); have BK1 := Aside0.mk hbox; clear HB; have HB := n0_; clear n0_; have hcb1_0 : w3.cell? ⟨g1, 0, none⟩ = some (.slice A0_0 l0_0.length c0_0) := (blk_cell BK1.out 0).trans rfl; clear hb hbox hg) | (go_at_call 24; refine (table_calls k _ _ l0_0 false _ (Kd.C_below HR0.out HB.out) Hok.out).mono ?_; rintro e w5 ⟨m, rfl, hb, hm⟩; have n0_ := Aside0.mk (below_step HB.out hb); clear HB; have HB := n0_; clear n0_; clear hm; clear hb))
  go_ret
  exact ⟨rfl, HB.out⟩
 | true =>
  rw [if_pos rfl] at hr
  subst hr
  go_enter Tryd.func17, Tryd.ntmps17
  go_wp2_with (first | ((with_reducible refine gate_dst (N := 1) rfl ?_); refine box_event ?hg (N := 1) ?hd (cs := #[.slice A0_0 l0_0.length c0_0]) (t := 24) ?hr ?_; (case hd => rfl); (case hg => rfl); (case hr => first | (go_simp; done) | (go_simp; rfl)); intro g1 hg w3 hbox hb; have n0_ := Aside0.mk (below_step HB.out hb); have BK1 := Aside0.mk hbox; clear HB; have HB := n0_; clear n0_; have hcb1_0 : w3.cell? ⟨g1, 0, none⟩ = some (.slice A0_0 l0_0.length c0_0) := (blk_cell BK1.out 0).trans rfl; clear hb hbox hg) | (go_at_call 24; refine (table_calls k _ _ l0_0 true _ (Kd.C_below HR0.out HB.out) Hok.out).mono ?_; rintro e w5 ⟨m, rfl, hb, hm⟩; have n0_ := Aside0.mk (below_step HB.out hb); clear HB; have HB := n0_; clear n0_; clear hm; clear hb))
  go_ret
  exact ⟨rfl, HB.out⟩
set_option maxRecDepth 100000 in
set_option maxHeartbeats 4000000 in
theorem intern_Find.calls (k : Nat) (A0_0 : Option Addr) (c0_0 : Nat) (l0_0 : List (S34)) (a1_0 : ByteArray) (a1_1 : ByteArray) (r1 : Int) (r2 : Int) (w : World) (hr0_0 : Kd.C k34 w A0_0 l0_0.length l0_0) (hc0_0 : l0_0.length ≤ c0_0) (h : intern_Find.f k l0_0 a1_0 a1_1 = some (r1, r2)) :
  Calls Tryd.prog 21 #[.agg #[.slice A0_0 l0_0.length c0_0], .agg #[.string a1_0, .string a1_1]] w fun e w' => e = .returned (.tuple #[.int .i64 r1, .int .i64 r2]) ∧ Below w.heap.size w w' := by
 have HR0 := Aside0.mk hr0_0
 clear hr0_0 hc0_0
 have HB := Aside0.mk (Below.refl w.heap.size w)
 unfold intern_Find.f at h
 obtain ⟨ok, hok, h⟩ := Option.bind_eq_some_iff.mp h
 have Hok := Aside0.mk hok
 clear hok
 have huM := Tryd.underlying24
 have huN := Tryd.underlying34
 cases ok with
 | false =>
  rw [if_neg (by decide)] at h
  obtain ⟨rfl, rfl⟩ := Prod.mk.inj (Option.some.inj h)
  clear h
  go_enter Tryd.func21, Tryd.ntmps21
  go_wp2_with (first | ((with_reducible refine gate_dst (N := 2) rfl ?_); refine box_event ?hg (N := 2) ?hd (cs := #[.slice A0_0 l0_0.length c0_0]) (t := 24) ?hr ?_; (case hd => rfl); (case hg => rfl); (case hr => first | (go_simp; done) | (go_simp; rfl)); intro g2 hg w3 hbox hb; have n0_ := Aside0.mk (below_step HB.out hb); have BK2 := Aside0.mk hbox; clear HB; have HB := n0_; clear n0_; clear hb hbox hg) | ((with_reducible refine gate_dst (N := 3) rfl ?_); refine box_event ?hg (N := 3) ?hd (cs := #[.string a1_0, .string a1_1]) (t := 34) ?hr ?_; (case hd => rfl); (case hg => rfl); (case hr => first | (go_simp; done) | (go_simp; rfl)); intro g3 hg w4 hbox hb; have n0_ := Aside0.mk (below_step HB.out hb); have BK3 := Aside0.mk hbox; clear HB; have HB := n0_; clear n0_; have n5_ := Aside0.mk (blk_below BK2.out hb); clear BK2; have BK2 := n5_; clear n5_; have hcb2_0 : w4.cell? ⟨g2, 0, none⟩ = some (.slice A0_0 l0_0.length c0_0) := (blk_cell BK2.out 0).trans rfl; clear hb hbox hg) | (go_at_call 24; refine (table_calls k _ _ l0_0 false _ (Kd.C_below HR0.out HB.out) Hok.out).mono ?_; rintro e w5 ⟨m, rfl, hb, hm⟩; have n0_ := Aside0.mk (below_step HB.out hb); clear HB; have HB := n0_; clear n0_; clear hm; clear hb))
  go_ret2
  exact ⟨rfl, HB.out⟩
 | true =>
  rw [if_pos rfl] at h
  obtain ⟨y, hy, h⟩ := Option.bind_eq_some_iff.mp h
  have Hy := Aside0.mk hy
  clear hy
  cases y with
  | false =>
   rw [if_neg (by decide)] at h
   obtain ⟨rfl, rfl⟩ := Prod.mk.inj (Option.some.inj h)
   clear h
   go_enter Tryd.func21, Tryd.ntmps21
   go_wp2_with (first | ((with_reducible refine gate_dst (N := 2) rfl ?_); refine box_event ?hg (N := 2) ?hd (cs := #[.slice A0_0 l0_0.length c0_0]) (t := 24) ?hr ?_; (case hd => rfl); (case hg => rfl); (case hr => first | (go_simp; done) | (go_simp; rfl)); intro g2 hg w3 hbox hb; have n0_ := Aside0.mk (below_step HB.out hb); have BK2 := Aside0.mk hbox; clear HB; have HB := n0_; clear n0_; clear hb hbox hg) | ((with_reducible refine gate_dst (N := 3) rfl ?_); refine box_event ?hg (N := 3) ?hd (cs := #[.string a1_0, .string a1_1]) (t := 34) ?hr ?_; (case hd => rfl); (case hg => rfl); (case hr => first | (go_simp; done) | (go_simp; rfl)); intro g3 hg w4 hbox hb; have n0_ := Aside0.mk (below_step HB.out hb); have BK3 := Aside0.mk hbox; clear HB; have HB := n0_; clear n0_; have n5_ := Aside0.mk (blk_below BK2.out hb); clear BK2; have BK2 := n5_; clear n5_; have hcb2_0 : w4.cell? ⟨g2, 0, none⟩ = some (.slice A0_0 l0_0.length c0_0) := (blk_cell BK2.out 0).trans rfl; clear hb hbox hg) | (go_at_call 24; refine (table_calls k _ _ l0_0 true _ (Kd.C_below HR0.out HB.out) Hok.out).mono ?_; rintro e w5 ⟨m, rfl, hb, hm⟩; have n0_ := Aside0.mk (below_step HB.out hb); clear HB; have HB := n0_; clear n0_; have n6_ := Aside0.mk (blk_below BK3.out hb); clear BK3; have BK3 := n6_; clear n6_; have hct0 : w5.cell? ⟨g3, 0, none⟩ = some (.string a1_0) := (blk_cell BK3.out 0).trans rfl; have hct1 : w5.cell? ⟨g3, 1, none⟩ = some (.string a1_1) := (blk_cell BK3.out 1).trans rfl; obtain ⟨mb, rfl, hmb, hMO⟩ := hm rfl; have HM := Aside0.mk hMO; clear hMO hm hmb; clear hb) | (go_at_call 26; refine (node_May.calls k a1_0 a1_1 false _ Hy.out).mono ?_; rintro e w6 ⟨rfl, hb⟩; have n0_ := Aside0.mk (below_step HB.out hb); have n1_ := Aside0.mk (MO_below HM.out hb); have n2_ := Aside0.mk (blk_below BK3.out hb); clear HB HM BK3 hb; have HB := n0_; have HM := n1_; have BK3 := n2_; clear n0_ n1_ n2_))
   go_ret2
   exact ⟨rfl, HB.out⟩
  | true =>
   rw [if_pos rfl] at h
   by_cases hok : okN a1_0 a1_1 = true
   case neg => rw [if_neg hok] at h; cases h
   rw [if_pos hok] at h
   have hkey := keyOf_node hok
   have HOK := Aside0.mk hok
   clear hok
   cases hix : ixN a1_0 a1_1 l0_0 with
   | none =>
    rw [hix] at h
    obtain ⟨rfl, rfl⟩ := Prod.mk.inj (Option.some.inj h)
    have Hix := Aside0.mk (show (ixN a1_0 a1_1 l0_0).isSome = false by rw [hix]; rfl)
    clear h hix
    go_enter Tryd.func21, Tryd.ntmps21
    go_wp2_with (first | ((with_reducible refine gate_dst (N := 2) rfl ?_); refine box_event ?hg (N := 2) ?hd (cs := #[.slice A0_0 l0_0.length c0_0]) (t := 24) ?hr ?_; (case hd => rfl); (case hg => rfl); (case hr => first | (go_simp; done) | (go_simp; rfl)); intro g2 hg w3 hbox hb; have n0_ := Aside0.mk (below_step HB.out hb); have BK2 := Aside0.mk hbox; clear HB; have HB := n0_; clear n0_; clear hb hbox hg) | ((with_reducible refine gate_dst (N := 3) rfl ?_); refine box_event ?hg (N := 3) ?hd (cs := #[.string a1_0, .string a1_1]) (t := 34) ?hr ?_; (case hd => rfl); (case hg => rfl); (case hr => first | (go_simp; done) | (go_simp; rfl)); intro g3 hg w4 hbox hb; have n0_ := Aside0.mk (below_step HB.out hb); have BK3 := Aside0.mk hbox; clear HB; have HB := n0_; clear n0_; have n5_ := Aside0.mk (blk_below BK2.out hb); clear BK2; have BK2 := n5_; clear n5_; have hcb2_0 : w4.cell? ⟨g2, 0, none⟩ = some (.slice A0_0 l0_0.length c0_0) := (blk_cell BK2.out 0).trans rfl; clear hb hbox hg) | (go_at_call 24; refine (table_calls k _ _ l0_0 true _ (Kd.C_below HR0.out HB.out) Hok.out).mono ?_; rintro e w5 ⟨m, rfl, hb, hm⟩; have n0_ := Aside0.mk (below_step HB.out hb); clear HB; have HB := n0_; clear n0_; have n6_ := Aside0.mk (blk_below BK3.out hb); clear BK3; have BK3 := n6_; clear n6_; have hct0 : w5.cell? ⟨g3, 0, none⟩ = some (.string a1_0) := (blk_cell BK3.out 0).trans rfl; have hct1 : w5.cell? ⟨g3, 1, none⟩ = some (.string a1_1) := (blk_cell BK3.out 1).trans rfl; obtain ⟨mb, rfl, hmb, hMO⟩ := hm rfl; have HM := Aside0.mk hMO; clear hMO hm hmb; clear hb) | (go_at_call 26; refine (node_May.calls k a1_0 a1_1 true _ Hy.out).mono ?_; rintro e w6 ⟨rfl, hb⟩; have n0_ := Aside0.mk (below_step HB.out hb); have n1_ := Aside0.mk (MO_below HM.out hb); have n2_ := Aside0.mk (blk_below BK3.out hb); clear HB HM BK3 hb; have HB := n0_; have HM := n1_; have BK3 := n2_; clear n0_ n1_ n2_; have hcy0 : w6.cell? ⟨g3, 0, none⟩ = some (.string a1_0) := (blk_cell BK3.out 0).trans rfl; have hcy1 : w6.cell? ⟨g3, 1, none⟩ = some (.string a1_1) := (blk_cell BK3.out 1).trans rfl; obtain ⟨D, hown, hDD⟩ := HM.out; have hD := Aside0.mk (hDD.2 a1_0 a1_1 HOK.out); clear hDD; have hhas := hD.out.1; rw [Hix.out] at hhas) | (at_lookup; refine wpList_lookup_own_ok_int _ rfl _ _ 53 rfl 34 3 .i64 keyed_node Tryd.underlying53 Tryd.underlying3 (zero_int _) mb _ D rfl hown _ _ rfl hkey ?_; intro c hat hwc; rw [hhas]))
    go_ret2
    exact ⟨rfl, HB.out⟩
   | some i =>
    rw [hix] at h
    obtain ⟨rfl, rfl⟩ := Prod.mk.inj (Option.some.inj h)
    have Hix := Aside0.mk (show (ixN a1_0 a1_1 l0_0).isSome = true by rw [hix]; rfl)
    have Hi := Aside0.mk hix
    clear h hix
    go_enter Tryd.func21, Tryd.ntmps21
    go_wp2_with (first | ((with_reducible refine gate_dst (N := 2) rfl ?_); refine box_event ?hg (N := 2) ?hd (cs := #[.slice A0_0 l0_0.length c0_0]) (t := 24) ?hr ?_; (case hd => rfl); (case hg => rfl); (case hr => first | (go_simp; done) | (go_simp; rfl)); intro g2 hg w3 hbox hb; have n0_ := Aside0.mk (below_step HB.out hb); have BK2 := Aside0.mk hbox; clear HB; have HB := n0_; clear n0_; clear hb hbox hg) | ((with_reducible refine gate_dst (N := 3) rfl ?_); refine box_event ?hg (N := 3) ?hd (cs := #[.string a1_0, .string a1_1]) (t := 34) ?hr ?_; (case hd => rfl); (case hg => rfl); (case hr => first | (go_simp; done) | (go_simp; rfl)); intro g3 hg w4 hbox hb; have n0_ := Aside0.mk (below_step HB.out hb); have BK3 := Aside0.mk hbox; clear HB; have HB := n0_; clear n0_; have n5_ := Aside0.mk (blk_below BK2.out hb); clear BK2; have BK2 := n5_; clear n5_; have hcb2_0 : w4.cell? ⟨g2, 0, none⟩ = some (.slice A0_0 l0_0.length c0_0) := (blk_cell BK2.out 0).trans rfl; clear hb hbox hg) | (go_at_call 24; refine (table_calls k _ _ l0_0 true _ (Kd.C_below HR0.out HB.out) Hok.out).mono ?_; rintro e w5 ⟨m, rfl, hb, hm⟩; have n0_ := Aside0.mk (below_step HB.out hb); clear HB; have HB := n0_; clear n0_; have n6_ := Aside0.mk (blk_below BK3.out hb); clear BK3; have BK3 := n6_; clear n6_; have hct0 : w5.cell? ⟨g3, 0, none⟩ = some (.string a1_0) := (blk_cell BK3.out 0).trans rfl; have hct1 : w5.cell? ⟨g3, 1, none⟩ = some (.string a1_1) := (blk_cell BK3.out 1).trans rfl; obtain ⟨mb, rfl, hmb, hMO⟩ := hm rfl; have HM := Aside0.mk hMO; clear hMO hm hmb; clear hb) | (go_at_call 26; refine (node_May.calls k a1_0 a1_1 true _ Hy.out).mono ?_; rintro e w6 ⟨rfl, hb⟩; have n0_ := Aside0.mk (below_step HB.out hb); have n1_ := Aside0.mk (MO_below HM.out hb); have n2_ := Aside0.mk (blk_below BK3.out hb); clear HB HM BK3 hb; have HB := n0_; have HM := n1_; have BK3 := n2_; clear n0_ n1_ n2_; have hcy0 : w6.cell? ⟨g3, 0, none⟩ = some (.string a1_0) := (blk_cell BK3.out 0).trans rfl; have hcy1 : w6.cell? ⟨g3, 1, none⟩ = some (.string a1_1) := (blk_cell BK3.out 1).trans rfl; obtain ⟨D, hown, hDD⟩ := HM.out; have hD := Aside0.mk (hDD.2 a1_0 a1_1 HOK.out); clear hDD; have hhas := hD.out.1; rw [Hix.out] at hhas) | (at_lookup; refine wpList_lookup_own_ok_int _ rfl _ _ 53 rfl 34 3 .i64 keyed_node Tryd.underlying53 Tryd.underlying3 (zero_int _) mb _ D rfl hown _ _ rfl hkey ?_; intro c hat hwc; rw [hhas]))
    go_ret2
    have hat2 := hD.out.2 i Hi.out
    rw [hat] at hat2
    injection hat2 with hat2
    injection hat2 with _ hat2
    subst hat2
    exact ⟨rfl, HB.out⟩
theorem R_made {α : Type} (d : Kd α) (w : World) (n e base : Nat) (z : Array Value) (hb : base ≤ w.heap.size) (hn : n ≤ 1000000000) : Kd.R d e (w.alloc (.cells (madeCells z (n * d.sz)) e)) base (fun k_ => k_ = w.heap.size) (.slice (some ⟨w.heap.size, 0, none⟩) 0 n) [] :=
 ⟨fun k hk => by simpa [Value.ownBlock] using hk.symm, [], ⟨by simp, .inr ⟨w.heap.size, n, madeCells z (n * d.sz), rfl, hb, heap_alloc_new w _, Nat.zero_le _, by unfold maxLen; omega, size_madeCells _ _, by simp⟩⟩, Reps.none _ _⟩
set_option maxRecDepth 100000 in
set_option maxHeartbeats 4000000 in
theorem clone_calls (A0 : Option Addr) (c0 : Nat) (l : List S34) (w : World) (hr : Kd.C k34 w A0 l.length l) (hlen : l.length ≤ 1000000000) :
  Calls Tryd.prog 25 #[.slice A0 l.length c0] w fun e w' => ∃ v : Value, e = .returned v ∧ Kd.R k34 34 w' w.heap.size (fun _ => True) v l ∧ Below w.heap.size w w' := by
 have HR0 := Aside0.mk hr
 have HL := Aside0.mk hlen
 have HB := Aside0.mk (Below.refl w.heap.size w)
 have q22 : ∀ (w : World) (a : Option Addr) (n c n' c' : Nat), (binOp .eql 22 (.slice a n c) (.slice none n' c')).run Tryd.prog w = .ok (.bool a.isNone) w := fun w a n c n' c' => Lib.run_eql_slice_nil w _ _ a n c n' c' Tryd.underlying22
 cases A0 with
 | none =>
  have h0 : l = [] := by
   cases l with
   | nil => rfl
   | cons x t =>
    obtain ⟨ad, e, -⟩ := at_T34 hr 0 (by omega) (by simp only [List.length_cons]; omega)
    cases e
  subst h0
  clear hr hlen HR0
  go_enter Tryd.func25, Tryd.ntmps25
  go_wp2
  go_ret
  exact ⟨_, rfl, Kd.R_nil _ _ _ _ _, HB.out⟩
 | some ad =>
  clear hr hlen
  go_enter Tryd.func25, Tryd.ntmps25
  go_wp2_with (first
   | ((with_reducible refine gate_dst (N := 5) rfl ?_); refine Kd.R_lit k34 (w0 := w) w.heap.size 34 rfl (N := 5) ?hd (xs := ([] : List S34)) (inner := []) (ok := fun _ => True) (okp := fun _ => True) ?hr ?hp (fun _ hk => hk) trivial HB.out (below_size HB.out) (by simp) ?_; (case hd => rfl); (case hr => first | (go_simp; done) | (go_simp; rfl)); (case hp => exact Reps.none _ _); intro v5 w5 ho hb hg hnew; have HO := Aside0.mk ho; clear HB; have HB := Aside0.mk hb; have HRC := Aside0.mk (Kd.C_below HR0.out HB.out); clear ho hb hg hnew)
   | ((with_reducible refine gate_builtin (b := .append) (xs := #[.tmp 5, .tmp 6]) rfl ?_); at_builtin; refine Kd.R_append_rows k34 (w0 := w) w.heap.size rfl (.tmp 5) (.tmp 6) 22 34 (.agg #[(.string ⟨#[]⟩), (.string ⟨#[]⟩)]) 32 rfl Tryd.underlying22 info34 rfl (by decide) (by omega) v5 [] l _ _ _ (fun _ => True) (fun _ => False) rfl rfl HO.out ?aR (fun _ _ h => h) (fun _ h => h.elim) (fun _ _ => trivial) HB.out (below_size HB.out) (by have := HL.out; simp only [List.length_nil]; omega) ?_; (case aR => exact HRC.out); intro v7 w7 ho hb hg hat; clear HO HB; have HO := Aside0.mk ho; have HB := Aside0.mk hb; clear ho hb hg hat))
  go_ret
  exact ⟨_, rfl, HO.out, HB.out⟩
set_option maxRecDepth 100000 in
set_option maxHeartbeats 4000000 in
theorem intern_At.calls (k : Nat) (A0_0 : Option Addr) (c0_0 : Nat) (l0_0 : List (S34)) (A1 : Option Addr) (c1 : Nat) (l1 : List Int) (r1 : List (S34)) (r2 : Int) (w : World) (hr0_0 : Kd.C k34 w A0_0 l0_0.length l0_0) (hc0_0 : l0_0.length ≤ c0_0) (hr1 : Kd.C (Kd.int .i64) w A1 l1.length l1) (hc1 : l1.length ≤ c1) (h : intern_At.f k l0_0 l1 = some (r1, r2)) :
  Calls Tryd.prog 18 #[.agg #[.slice A0_0 l0_0.length c0_0], .slice A1 l1.length c1] w fun e w' => ∃ v0_ : Value, e = .returned (.tuple #[v0_, .int .i64 r2]) ∧ Kd.R k34 34 w' w.heap.size (fun _ => True) v0_ r1 ∧ Below w.heap.size w w' := by
 have HR0 := Aside0.mk hr0_0
 have HC0 := Aside0.mk hc0_0
 have HR1 := Aside0.mk hr1
 clear hr0_0 hc0_0 hr1 hc1
 have HB := Aside0.mk (Below.refl w.heap.size w)
 unfold intern_At.f at h
 obtain ⟨ok, hok, h⟩ := Option.bind_eq_some_iff.mp h
 have huM := Tryd.underlying24
 have huN := Tryd.underlying34
 have hchk : intern_Check.f k l0_0 = some (if ok = true then 0 else 1) := by unfold intern_Check.f; rw [hok]; rfl
 have Hchk := Aside0.mk hchk
 have hsz : l0_0.length ≤ 9223372036854775807 := by
  unfold tabF at hok
  by_cases hl : l0_0.length ≤ 1000000000
  ·omega
  ·rw [if_neg hl] at hok; cases hok
 clear hok hchk
 cases ok with
 | false =>
  rw [if_neg (by decide)] at h
  obtain ⟨rfl, rfl⟩ := Prod.mk.inj (Option.some.inj h)
  clear h
  go_enter Tryd.func18, Tryd.ntmps18
  go_wp2_with (first | ((with_reducible refine gate_dst (N := 2) rfl ?_); refine box_event ?hg (N := 2) ?hd (cs := #[.slice A0_0 l0_0.length c0_0]) (t := 24) ?hr ?_; (case hd => rfl); (case hg => rfl); (case hr => first | (go_simp; done) | (go_simp; rfl)); intro g2 hg w3 hbox hb; have n0_ := Aside0.mk (below_step HB.out hb); have BK2 := Aside0.mk hbox; clear HB; have HB := n0_; clear n0_; have hcb2_0 : w3.cell? ⟨g2, 0, none⟩ = some (.slice A0_0 l0_0.length c0_0) := (blk_cell BK2.out 0).trans rfl; clear hb hbox hg) | (go_at_call 17; refine (intern_Check.calls k _ _ l0_0 1 _ (Kd.C_below HR0.out HB.out) HC0.out Hchk.out).mono ?_; rintro e w4 ⟨rfl, hb⟩; have n0_ := Aside0.mk (below_step HB.out hb); have n1_ := Aside0.mk (blk_below BK2.out hb); clear HB BK2; have HB := n0_; have BK2 := n1_; clear n0_ n1_ hb))
  go_ret2
  exact ⟨_, rfl, Kd.R_nil _ _ _ _ _, HB.out⟩
 | true =>
  rw [if_pos rfl] at h
  by_cases hl1 : l1.length ≤ 1000000000
  case neg => rw [if_neg hl1] at h; cases h
  rw [if_pos hl1] at h
  have H := Aside0.mk h
  have HL := Aside0.mk hl1
  have hsz1 : l1.length ≤ 9223372036854775807 := by omega
  clear h
  have hmk : ∀ W : World, (Instr.makeSlice 22 (.int .i64 0) (.int .i64 (l1.length : Int))).run Tryd.prog W = .ok (.slice (some ⟨W.heap.size, 0, none⟩) 0 l1.length) (W.alloc (.cells (madeCells #[(.string ⟨#[]⟩), (.string ⟨#[]⟩)] (l1.length * 2)) 34)) := by
   intro W
   obtain ⟨i0, hi, hz0, hz1, hz2⟩ := info_parts info34
   have := run_make (P := Tryd.prog) (w := W) 22 34 i0 _ Tryd.underlying22 hi hz0 .i64 .i64 0 (l1.length : Int) (by omega) (by omega) (by rw [hz2]; omega) (by omega)
   rw [hz1] at this
   exact this
  clear hl1
  go_enter Tryd.func18, Tryd.ntmps18
  go_wp2_with (first | ((with_reducible refine gate_dst (N := 2) rfl ?_); refine box_event ?hg (N := 2) ?hd (cs := #[.slice A0_0 l0_0.length c0_0]) (t := 24) ?hr ?_; (case hd => rfl); (case hg => rfl); (case hr => first | (go_simp; done) | (go_simp; rfl)); intro g2 hg w3 hbox hb; have n0_ := Aside0.mk (below_step HB.out hb); have BK2 := Aside0.mk hbox; clear HB; have HB := n0_; clear n0_; have hcb2_0 : w3.cell? ⟨g2, 0, none⟩ = some (.slice A0_0 l0_0.length c0_0) := (blk_cell BK2.out 0).trans rfl; clear hb hbox hg) | (go_at_call 17; refine (intern_Check.calls k _ _ l0_0 0 _ (Kd.C_below HR0.out HB.out) HC0.out Hchk.out).mono ?_; rintro e w4 ⟨rfl, hb⟩; have n0_ := Aside0.mk (below_step HB.out hb); have n1_ := Aside0.mk (blk_below BK2.out hb); clear HB BK2; have HB := n0_; have BK2 := n1_; clear n0_ n1_ hb) | ((with_reducible refine gate_dst (N := 17) rfl ?_); refine Kd.event_run (v := .slice (some ⟨w4.heap.size, 0, none⟩) 0 l1.length) (w1 := w4.alloc (.cells (madeCells #[(.string ⟨#[]⟩), (.string ⟨#[]⟩)] (l1.length * 2)) 34)) rfl ?hr ?_; (case hr => first | (go_simp; done) | (go_simp; rfl)); have HO := Aside0.mk (Kd.R_mono (R_made k34 w4 l1.length 34 w.heap.size #[(.string ⟨#[]⟩), (.string ⟨#[]⟩)] (below_size HB.out) HL.out) (ok' := fun _ => True) (fun _ _ => trivial)); have n0_ := Aside0.mk (below_alloc HB.out (.cells (madeCells #[(.string ⟨#[]⟩), (.string ⟨#[]⟩)] (l1.length * 2)) 34)); have n1_ := Aside0.mk (blk_alloc BK2.out (.cells (madeCells #[(.string ⟨#[]⟩), (.string ⟨#[]⟩)] (l1.length * 2)) 34)); clear HB BK2; have HB := n0_; have BK2 := n1_; clear n0_ n1_; change Aside0 (Kd.R k34 34 (w4.alloc (.cells (madeCells #[(.string ⟨#[]⟩), (.string ⟨#[]⟩)] (l1.length * 2)) 34)) _ _ _ _) at HO; generalize w4.alloc (.cells (madeCells #[(.string ⟨#[]⟩), (.string ⟨#[]⟩)] (l1.length * 2)) 34) = w6 at HO HB BK2 ⊢; generalize (Value.slice (some ⟨w4.heap.size, 0, none⟩) 0 l1.length) = v6 at HO ⊢))
  clear hmk
  go_loopw [7, 20] (fun v7 v20 wr => ∃ (j : Nat) (jv : Int) (out : List S34), j ≤ l1.length ∧ jv = (j : Int) ∧ v20 = .int .i64 jv ∧ Aside0 (atGo l0_0 (l1.drop j) out = some (r1, r2)) ∧ Aside0 (out.length ≤ j) ∧ Aside0 (Kd.R k34 34 wr w.heap.size (fun _ => True) v7 out) ∧ Aside0 (wr.heap[g2]? = some (.cells #[.slice A0_0 l0_0.length c0_0] 24 (0, 0))) ∧ Aside0 (Below w.heap.size w wr)) (fun _ v20 _ => l1.length - (intOf v20).toNat)
  case atStart => exact ⟨0, 0, [], by omega, rfl, rfl, H, ⟨by simp⟩, HO, BK2, HB⟩
  case round =>
   clear HB BK2 H HO
   obtain ⟨j, jv, out, hj, hjv, rfl, H, HOL, HO, BK2, HB⟩ := hrel
   have hcz : wr.cell? ⟨g2, 0, none⟩ = some (.slice A0_0 l0_0.length c0_0) := (blk_cell BK2.out 0).trans rfl
   by_cases hlt : j < l1.length
   case neg =>
    have hnl : ¬ (jv < (l1.length : Int)) := by omega
    have h := H.out
    rw [List.drop_eq_nil_of_le (by omega)] at h
    obtain ⟨rfl, rfl⟩ := Prod.mk.inj (Option.some.inj h)
    clear h H
    go_wp2
    go_ret2
    exact ⟨_, rfl, HO.out, HB.out⟩
   case pos =>
    have p0 : (0 : Int) ≤ jv := by omega
    have q0 : jv < (l1.length : Int) := by omega
    obtain ⟨ad, ead, hx⟩ := Kd.at_int (Kd.C_below HR1.out HB.out) jv p0 q0
    cases ead
    have hrd : rd l1 jv = l1[j] := by rw [hjv]; simp [rd, List.getD_eq_getElem?_getD, hlt]
    obtain ⟨i, hi⟩ : ∃ i, i = l1[j] := ⟨_, rfl⟩
    rw [hrd, ← hi] at hx
    have h := H.out
    rw [List.drop_eq_getElem_cons hlt, ← hi, atGo] at h
    clear hi hrd H
    have Hjv := Aside0.mk hjv
    have Hlt := Aside0.mk hlt
    clear hjv hlt hj
    replace p0 := eq_true p0
    replace q0 := eq_true q0
    by_cases hin : 0 ≤ i ∧ i < (l0_0.length : Int)
    ·rw [if_pos hin] at h
     obtain ⟨h1, h2⟩ := hin
     obtain ⟨ad2, ead2, hy0, hy1⟩ := at_T34 (Kd.C_below HR0.out HB.out) i h1 h2
     cases ead2
     generalize rd_T34 l0_0 i = n at hy0 hy1 h
     obtain ⟨p, v⟩ := n
     simp only at hy0 hy1
     have H := Aside0.mk h
     clear h
     have hneg : (i < 0) = False := eq_false (by omega)
     have hge : ((l0_0.length : Int) ≤ i) = False := eq_false (by omega)
     replace h1 := eq_true h1
     replace h2 := eq_true h2
     go_wp2_with (first
      | ((with_reducible refine gate_builtin (b := .append) (xs := #[.tmp 33, .tmp 39]) rfl ?_); at_builtin; refine Kd.R_append k34 (w0 := w) w.heap.size rfl (.tmp 33) (.tmp 39) 22 34 (.agg #[(.string ⟨#[]⟩), (.string ⟨#[]⟩)]) 32 rfl Tryd.underlying22 info34 rfl (by decide) (by omega) u7 out (⟨p, v⟩ : S34) [.string p, .string v] (fun _ => True) (fun _ => False) rfl rfl ?aP (fun _ hk => hk.elim) ?aF ?aO ?aB ?aS ?aL ?_; (case aP => exact k34_mkM _ _ _ (⟨p, v⟩ : S34)); (case aB => exact HB.out); (case aF => exact (fun _ _ => trivial)); (case aO => exact HO.out); (case aS => exact below_size HB.out); (case aL => have := HOL.out; have := Hlt.out; have := HL.out; omega); intro v9 w8 ho hb hg hat; have n0_ := Aside0.mk hb; have n1_ := Aside0.mk ho; have n2_ := Aside0.mk (blk_grown BK2.out hg (Kd.R_ne HO.out BK2.out (by decide))); clear HB HO BK2; have HB := n0_; have HO := n1_; have BK2 := n2_; clear n0_ n1_ n2_; clear ho hb hg hat))
     refine ⟨?rel, ?measure⟩
     case measure =>
      show l1.length - (wrap64 (jv + 1)).toNat < l1.length - jv.toNat
      have := Hjv.out
      have := Hlt.out
      have := HL.out
      unfold wrap64
      omega
     case rel => exact ⟨j + 1, wrap64 (jv + 1), _, by have := Hlt.out; omega, by have := Hjv.out; have := Hlt.out; have := HL.out; unfold wrap64; omega, rfl, H, ⟨by rw [List.length_append]; have := HOL.out; simp only [List.length_cons, List.length_nil]; omega⟩, HO, BK2, HB⟩
    ·rw [if_neg hin] at h
     obtain ⟨rfl, rfl⟩ := Prod.mk.inj (Option.some.inj h)
     clear h
     by_cases h1 : i < 0
     ·go_wp2
      go_ret2
      exact ⟨_, rfl, Kd.R_nil _ _ _ _ _, HB.out⟩
     ·have hge : ((l0_0.length : Int) ≤ i) := by omega
      go_wp2
      go_ret2
      exact ⟨_, rfl, Kd.R_nil _ _ _ _ _, HB.out⟩
theorem MO_away {w : World} {b : Nat} {l : List S34} (h : MO w b l) {α : Type} {d : Kd α} {e base : Nat} {ok : Nat → Prop} {v : Value} {xs : List α} (hr : Kd.R d e w base ok v xs) : some b ≠ v.ownBlock := fun e_ => by
 obtain ⟨_, _, _, q, _, cells, hc⟩ := (Kd.R_bound hr).1 b e_.symm
 exact MO_ne h hc rfl
theorem MO_grown {w w' : World} {b : Nat} {l : List S34} (h : MO w b l) {row : Option Nat} (hg : w.grownBy w' row) (hne : some b ≠ row) : MO w' b l := MO_same h (hg.block b (MO_lt h) hne)
theorem R_notmap {w : World} {b : Nat} {l : List S34} (h : MO w b l) {α : Type} {d : Kd α} {e base : Nat} {ok : Nat → Prop} {v : Value} {xs : List α} (hr : Kd.R d e w base ok v xs) : Kd.R d e w base (fun k => ok k ∧ k ≠ b) v xs :=
 Kd.R_mono (Kd.R_bound hr) (fun k hk => ⟨hk.1, fun e_ => by obtain ⟨_, _, _, q, _, cells, hc⟩ := hk; exact MO_ne h hc e_.symm⟩)
theorem R_mapped {w w' : World} {b : Nat} {l : List S34} (h : MO w b l) {α : Type} {d : Kd α} {e base : Nat} {ok : Nat → Prop} {v : Value} {xs : List α} (hr : Kd.R d e w base ok v xs) (hg : w.grownBy w' (some b)) : Kd.R d e w' base ok v xs :=
 Kd.R_mono (Kd.R_grown (R_notmap h hr) hg (fun k hk e_ => hk.2 (Option.some.inj e_))) (fun k hk => hk.1)
theorem nodeE : ∀ q, q ∈ 34 :: k34.E → q ≠ 3 ∧ q ≠ 24 := by
 intro q hq
 simp [k34, Kd.iso, Kd.pair, Kd.string, Kd.scalar] at hq
 subst hq
 decide
theorem intE : ∀ q, q ∈ 3 :: (Kd.int .i64).E → q ≠ 34 := by
 intro q hq
 simp [Kd.int, Kd.scalar] at hq
 subst hq
 decide
set_option maxRecDepth 100000 in
set_option maxHeartbeats 8000000 in
theorem intern_All.calls (k : Nat) (P0_0_ : Nat → Prop) (A0_0 : Option Addr) (c0_0 : Nat) (l0_0 : List (S34)) (A1 : Option Addr) (c1 : Nat) (l1 : List (S34)) (r1 : List Int) (r2 : List (S34)) (r3 : Int) (w : World) (hs0_0 : Kd.V k34 34 w w.heap.size (fun k_ => P0_0_ k_) (.slice A0_0 l0_0.length c0_0) l0_0) (hr1 : Kd.C k34 w A1 l1.length l1) (hc1 : l1.length ≤ c1) (h : intern_All.f k l0_0 l1 = some (r1, r2, r3)) :
  Calls Tryd.prog 10 #[.agg #[.slice A0_0 l0_0.length c0_0], .slice A1 l1.length c1] w fun e w' => ∃ v0_ v1_ : Value, e = .returned (.tuple #[v0_, .agg #[v1_], .int .i64 r3]) ∧ Kd.R (Kd.int .i64) 3 w' w.heap.size (fun k_ => (w.heap.size ≤ k_)) v0_ r1 ∧ Kd.V k34 34 w' w.heap.size (fun k_ => (P0_0_ k_ ∨ w.heap.size ≤ k_) ∧ some k_ ≠ (v0_ : Value).ownBlock) v1_ r2 ∧ Below w.heap.size w w' := by
 have HS := Aside0.mk hs0_0
 have HR0 := Aside0.mk (Kd.V_reads' hs0_0).2.2
 have HR1 := Aside0.mk hr1
 clear hs0_0 hr1 hc1
 have HB := Aside0.mk (Below.refl w.heap.size w)
 unfold intern_All.f at h
 obtain ⟨ok, hok, h⟩ := Option.bind_eq_some_iff.mp h
 have Hok := Aside0.mk hok
 have huM := Tryd.underlying24
 have huN := Tryd.underlying34
 have hsz : l0_0.length ≤ 9223372036854775807 := by
  unfold tabF at hok
  by_cases hl : l0_0.length ≤ 1000000000
  ·omega
  ·rw [if_neg hl] at hok; cases hok
 clear hok
 cases ok with
 | false =>
  rw [if_neg (by decide)] at h
  obtain ⟨rfl, h2⟩ := Prod.mk.inj (Option.some.inj h)
  obtain ⟨rfl, rfl⟩ := Prod.mk.inj h2
  clear h h2
  go_enter Tryd.func10, Tryd.ntmps10
  go_wp2_with (first | ((with_reducible refine gate_dst (N := 2) rfl ?_); refine box_event ?hg (N := 2) ?hd (cs := #[.slice A0_0 l0_0.length c0_0]) (t := 24) ?hr ?_; (case hd => rfl); (case hg => rfl); (case hr => first | (go_simp; done) | (go_simp; rfl)); intro g2 hg w3 hbox hb; have n0_ := Aside0.mk (below_step HB.out hb); have BK2 := Aside0.mk hbox; clear HB; have HB := n0_; clear n0_; clear hb hbox hg) | ((with_reducible refine gate_dst (N := 5) rfl ?_); refine box_event ?hg (N := 5) ?hd (cs := #[.slice none 0 0]) (t := 24) ?hr ?_; (case hd => rfl); (case hg => rfl); (case hr => first | (go_simp; done) | (go_simp; rfl)); intro g5 hg w4 hbox hb; have N25 := Aside0.mk (show g2 ≠ g5 by rw [hg]; exact Nat.ne_of_lt (blk_lt BK2.out)); have GE5 := Aside0.mk (show w.heap.size ≤ g5 by rw [hg]; exact below_size HB.out); have BK5 := Aside0.mk hbox; have n0_ := Aside0.mk (below_step HB.out hb); have n1_ := Aside0.mk (blk_below BK2.out hb); clear HB BK2; have HB := n0_; have BK2 := n1_; clear n0_ n1_; clear hb hbox hg; have hcb2 : w4.cell? ⟨g2, 0, none⟩ = some (.slice A0_0 l0_0.length c0_0) := (blk_cell BK2.out 0).trans rfl) | (go_at_call 24; refine (table_calls k _ _ l0_0 false _ (Kd.C_below HR0.out HB.out) Hok.out).mono ?_; rintro e w5 ⟨m, rfl, hb, hm⟩; have GS := Aside0.mk (below_size HB.out); have n0_ := Aside0.mk (below_step HB.out hb); have n1_ := Aside0.mk (blk_below BK2.out hb); have n2_ := Aside0.mk (blk_below BK5.out hb); clear HB BK2 BK5; have HB := n0_; have BK2 := n1_; have BK5 := n2_; clear n0_ n1_ n2_; clear hm; clear hb))
  have n0_ := Aside0.mk (blk_drew BK2.out)
  have n1_ := Aside0.mk (blk_drew BK5.out)
  have n2_ := Aside0.mk (below_drew1 HB.out)
  clear BK2 BK5 HB
  have BK2 := n0_
  have BK5 := n1_
  have HB := n2_
  clear n0_ n1_ n2_
  refine start_ (n := 4) (S := fun w' => w'.cell? ⟨g2, 0, none⟩ = some (.slice A0_0 l0_0.length c0_0)) (ds := []) #[false, false, false, false] (by kernel_rfl) rfl rfl ((blk_cell BK2.out 0).trans rfl) (fun hHeld => ?_)
  generalize w5.drew = w40 at BK2 BK5 HB hHeld ⊢
  refine pure_ (i := 1) (N := some 4) (v := ?_) (a' := ?_) #[false, true, false, false] rfl rfl (by kernel_rfl) (fun _ _ _ h => h) (Or.inl ⟨by rfl, ?_⟩) ?_ ?_
  rotate_left
  ·intro w'
   go_simp
   with_reducible rfl
  rotate_left
  ·simp only [Act.put, List.setIfInBounds_toArray, List.set_cons_zero, List.set_cons_succ, i64_w, i32_w]
   rfl
  refine take_ (i := 0) (N := some 22) (v := ?_) (a' := ?_) #[true, true, false, false] rfl rfl (by kernel_rfl) (fun _ _ _ h => h) (Or.inl ⟨by rfl, ?_⟩) hHeld ?_ ?_
  rotate_left
  ·rintro w' s0
   go_simp
   with_reducible rfl
  rotate_left
  ·simp only [Act.put, List.setIfInBounds_toArray, List.set_cons_zero, List.set_cons_succ, i64_w, i32_w]
   rfl
  refine one_ (i := 2) (N := none) #[true, true, true, false] rfl rfl (by kernel_rfl) (by decide) (fun K hK => ?_)
  have hs40 : w40.cell? ⟨g5, 0, none⟩ = some (.slice none 0 0) := (blk_cell BK5.out 0).trans rfl
  have hf40 := blk_frozen BK5.out 0
  have hn40 := N25.out
  have hn41 := N25.out.symm
  refine skip_ (w1 := ?_) (by rfl) rfl ?_ ?_
  rotate_left
  ·go_simp
   rfl
  refine hK.out _ _ (((cell_far (p := ⟨g5, _, none⟩) N25.out _).trans (hHeld))) (fun hHeld => ?_)
  clear hK K
  refine pure_ (i := 3) (N := some 6) (v := ?_) (a' := ?_) #[true, true, true, true] rfl rfl (by kernel_rfl) (fun _ _ _ h => h) (Or.inl ⟨by rfl, ?_⟩) ?_ ?_
  rotate_left
  ·intro w'
   go_simp
   with_reducible rfl
  rotate_left
  ·simp only [Act.put, List.setIfInBounds_toArray, List.set_cons_zero, List.set_cons_succ, i64_w, i32_w]
   rfl
  refine done_ (by kernel_rfl) ?_
  try go_wp2
  refine bodyPost_ret (results_list (rs := [.tmp 4, .cell 5 24, .tmp 6]) rfl (by simp) (.tmp (.cell g5 24 #[.slice A0_0 l0_0.length c0_0] (0, 0) _ rfl (by refine blk_put (cs := #[.slice none 0 0]) ?_ 0 _ rfl; exact BK5.out) Tryd.underlying24 rfl (by kernel_rfl) (.tmp .nil)))) rfl ?_
  exact ⟨_, _, rfl, Kd.R_nil _ _ _ _ _, Kd.V_mono (Kd.V_far (p := ⟨g5, 0, none⟩) (Kd.V_below (Kd.V_bound HS.out) HB.out) (fun k_ hk => by have h_ := hk.2; have h2_ := GE5.out; show k_ ≠ g5; omega) (.slice A0_0 l0_0.length c0_0)) (fun k_ hk => ⟨.inl hk.1, fun e_ => by cases e_⟩), below_set HB.out GE5.out⟩
 | true =>
  rw [if_pos rfl] at h
  by_cases hlen : l0_0.length + l1.length ≤ 1000000000
  case neg => rw [if_neg hlen] at h; cases h
  rw [if_pos hlen] at h
  have H := Aside0.mk h
  have HL := Aside0.mk hlen
  have hsz1 : l1.length ≤ 9223372036854775807 := by omega
  clear h
  have hmk : ∀ W : World, (Instr.makeSlice 27 (.int .i64 0) (.int .i64 (l1.length : Int))).run Tryd.prog W = .ok (.slice (some ⟨W.heap.size, 0, none⟩) 0 l1.length) (W.alloc (.cells (madeCells #[.int .i64 0] (l1.length * 1)) 3)) := by
   intro W
   obtain ⟨i0, hi, hz0, hz1, hz2⟩ := info_parts info3
   have := run_make (P := Tryd.prog) (w := W) 27 3 i0 _ Tryd.underlying27 hi hz0 .i64 .i64 0 (l1.length : Int) (by omega) (by omega) (by rw [hz2]; omega) (by omega)
   rw [hz1] at this
   exact this
  clear hlen
  go_enter Tryd.func10, Tryd.ntmps10
  go_wp2_with (first | ((with_reducible refine gate_dst (N := 2) rfl ?_); refine box_event ?hg (N := 2) ?hd (cs := #[.slice A0_0 l0_0.length c0_0]) (t := 24) ?hr ?_; (case hd => rfl); (case hg => rfl); (case hr => first | (go_simp; done) | (go_simp; rfl)); intro g2 hg w3 hbox hb; have n0_ := Aside0.mk (below_step HB.out hb); have BK2 := Aside0.mk hbox; clear HB; have HB := n0_; clear n0_; clear hb hbox hg) | ((with_reducible refine gate_dst (N := 5) rfl ?_); refine box_event ?hg (N := 5) ?hd (cs := #[.slice none 0 0]) (t := 24) ?hr ?_; (case hd => rfl); (case hg => rfl); (case hr => first | (go_simp; done) | (go_simp; rfl)); intro g5 hg w4 hbox hb; have N25 := Aside0.mk (show g2 ≠ g5 by rw [hg]; exact Nat.ne_of_lt (blk_lt BK2.out)); have GE5 := Aside0.mk (show w.heap.size ≤ g5 by rw [hg]; exact below_size HB.out); have BK5 := Aside0.mk hbox; have n0_ := Aside0.mk (below_step HB.out hb); have n1_ := Aside0.mk (blk_below BK2.out hb); clear HB BK2; have HB := n0_; have BK2 := n1_; clear n0_ n1_; clear hb hbox hg; have hcb2 : w4.cell? ⟨g2, 0, none⟩ = some (.slice A0_0 l0_0.length c0_0) := (blk_cell BK2.out 0).trans rfl) | (go_at_call 24; refine (table_calls k _ _ l0_0 true _ (Kd.C_below HR0.out HB.out) Hok.out).mono ?_; rintro e w5 ⟨m, rfl, hb, hm⟩; have GS := Aside0.mk (below_size HB.out); have n0_ := Aside0.mk (below_step HB.out hb); have n1_ := Aside0.mk (blk_below BK2.out hb); have n2_ := Aside0.mk (blk_below BK5.out hb); clear HB BK2 BK5; have HB := n0_; have BK2 := n1_; have BK5 := n2_; clear n0_ n1_ n2_; obtain ⟨mb, rfl, hmb, hMO⟩ := hm rfl; have HM := Aside0.mk hMO; have GW := Aside0.mk (Nat.le_trans GS.out hmb); clear hMO hm hmb; clear hb))
  have n0_ := Aside0.mk (blk_drew BK2.out)
  have n1_ := Aside0.mk (blk_drew BK5.out)
  have n2_ := Aside0.mk (below_drew1 HB.out)
  have n3_ := Aside0.mk (MO_below HM.out (below_drew (Below.refl _ _)))
  clear BK2 BK5 HB HM
  have BK2 := n0_
  have BK5 := n1_
  have HB := n2_
  have HM := n3_
  clear n0_ n1_ n2_ n3_
  refine start_ (n := 8) (S := fun w' => w'.cell? ⟨g2, 0, none⟩ = some (.slice A0_0 l0_0.length c0_0)) (ds := []) #[false, false, false, false, false, false, false, false] (by kernel_rfl) rfl rfl ((blk_cell BK2.out 0).trans rfl) (fun hHeld => ?_)
  generalize w5.drew = w6 at BK2 BK5 HB HM hHeld ⊢
  refine pure_ (i := 0) (N := some 23) (v := ?_) (a' := ?_) #[true, false, false, false, false, false, false, false] rfl rfl (by kernel_rfl) (fun _ _ _ h => h) (Or.inl ⟨by rfl, ?_⟩) ?_ ?_
  rotate_left
  ·intro w'
   go_simp
   with_reducible rfl
  rotate_left
  ·simp only [Act.put, List.setIfInBounds_toArray, List.set_cons_zero, List.set_cons_succ, i64_w, i32_w]
   rfl
  refine pure_ (i := 1) (N := some 24) (v := ?_) (a' := ?_) #[true, true, false, false, false, false, false, false] rfl rfl (by kernel_rfl) (fun _ _ _ h => h) (Or.inl ⟨by rfl, ?_⟩) ?_ ?_
  rotate_left
  ·intro w'
   go_simp
   with_reducible rfl
  rotate_left
  ·simp only [Act.put, List.setIfInBounds_toArray, List.set_cons_zero, List.set_cons_succ, i64_w, i32_w]
   rfl
  refine pure_ (i := 3) (N := some 26) (v := ?_) (a' := ?_) #[true, true, false, true, false, false, false, false] rfl rfl (by kernel_rfl) (fun _ _ _ h => h) (Or.inl ⟨by rfl, ?_⟩) ?_ ?_
  rotate_left
  ·intro w'
   go_simp
   with_reducible rfl
  rotate_left
  ·simp only [Act.put, List.setIfInBounds_toArray, List.set_cons_zero, List.set_cons_succ, i64_w, i32_w]
   rfl
  refine take_ (i := 4) (N := some 27) (v := ?_) (a' := ?_) #[true, true, false, true, true, false, false, false] rfl rfl (by kernel_rfl) (fun _ _ _ h => h) (Or.inl ⟨by rfl, ?_⟩) hHeld ?_ ?_
  rotate_left
  ·rintro w' s0
   go_simp
   with_reducible rfl
  rotate_left
  ·simp only [Act.put, List.setIfInBounds_toArray, List.set_cons_zero, List.set_cons_succ, i64_w, i32_w]
   rfl
  refine join_ (σ := Value × Value) 2 #[true, true, true, true, true, true, false, false] (fun s_ => [(25, s_.1), (28, s_.2)]) (fun s_ w' => w'.cell? ⟨g2, 0, none⟩ = some (.slice A0_0 l0_0.length c0_0) ∧ Kd.R (Kd.int .i64) 3 w' w.heap.size (fun k_ => w.heap.size ≤ k_) s_.1 [] ∧ Kd.R k34 34 w' w.heap.size (fun k_ => w.heap.size ≤ k_) s_.2 l0_0 ∧ MO w' mb l0_0 ∧ w'.heap[g2]? = some (.cells #[.slice A0_0 l0_0.length c0_0] 24 (0, 0)) ∧ w'.heap[g5]? = some (.cells #[.slice none 0 0] 24 (0, 0)) ∧ Below w.heap.size w w') ?_ ?_
  rotate_left
  ·intro hCont
   refine two_ (i := 2) (j := 5) (Ni := some 25) (Nj := some 28) #[true, true, true, true, true, false, false, false] #[true, true, false, true, true, true, false, false] rfl rfl rfl rfl (by kernel_rfl) (by decide) (by decide) (fun K hK => ?_) (fun K hK => ?_)
   ·skip
    refine value_ (w1 := w6.alloc (.cells (madeCells #[.int .i64 0] (l1.length * 1)) 3)) (v := .slice (some ⟨w6.heap.size, 0, none⟩) 0 l1.length) (by rfl) rfl ?_ ?_
    ·first | (go_simp; done) | (go_simp; rfl)
    have HO9 := Aside0.mk (Kd.R_mono (ok' := fun k_ => w.heap.size ≤ k_) (R_made (Kd.int .i64) w6 l1.length 3 w.heap.size #[.int .i64 0] (below_size HB.out) (by have := HL.out; omega)) (fun k_ hk => by rw [hk]; exact below_size HB.out))
    change Aside0 (Kd.R (Kd.int .i64) 3 (w6.alloc (.cells (madeCells #[.int .i64 0] (l1.length * 1)) 3)) _ _ _ _) at HO9
    have n0_ := Aside0.mk (blk_alloc BK2.out (.cells (madeCells #[.int .i64 0] (l1.length * 1)) 3))
    have n1_ := Aside0.mk (blk_alloc BK5.out (.cells (madeCells #[.int .i64 0] (l1.length * 1)) 3))
    have n2_ := Aside0.mk (MO_below HM.out (below_alloc (Below.refl _ _) (.cells (madeCells #[.int .i64 0] (l1.length * 1)) 3)))
    have n3_ := Aside0.mk (below_alloc HB.out (.cells (madeCells #[.int .i64 0] (l1.length * 1)) 3))
    clear BK2 BK5 HM HB
    have BK2 := n0_
    have BK5 := n1_
    have HM := n2_
    have HB := n3_
    clear n0_ n1_ n2_ n3_
    generalize w6.alloc (.cells (madeCells #[.int .i64 0] (l1.length * 1)) 3) = w7 at HO9 BK2 BK5 HM HB ⊢
    generalize (Value.slice (some ⟨w6.heap.size, 0, none⟩) 0 l1.length) = v9 at HO9 ⊢
    refine hK.out _ _ ((blk_cell BK2.out 0).trans rfl) (fun hHeld => ?_)
    clear hK K
    refine norm_ (a' := ?_) ?_ ?_
    rotate_left
    ·show Act.put _ (some 25) _ = _
     simp only [Act.put, List.setIfInBounds_toArray, List.set_cons_zero, List.set_cons_succ, i64_w, i32_w]
     rfl
    refine one_ (i := 5) (N := some 28) #[true, true, true, true, true, true, false, false] rfl rfl (by kernel_rfl) (by decide) (fun K hK => ?_)
    refine goes_ Tryd.func25 (by kernel_rfl) rfl #[.slice A0_0 l0_0.length c0_0] (by rfl) rfl rfl (by (try simp only [List.map_toArray, List.map_cons, List.map_nil]); first | done | rfl) ?_
    refine (clone_calls _ _ l0_0 _ (Kd.C_below HR0.out HB.out) (by have := HL.out; omega)).mono ?_
    rintro e w8 ⟨v10, rfl, ho, hb⟩
    refine ⟨_, rfl, ?_⟩
    have HO10 := Aside0.mk (Kd.R_lower (Kd.R_mono (ok' := fun k_ => w.heap.size ≤ k_) (Kd.R_bound ho) (fun k_ hk => Nat.le_trans (below_size HB.out) hk.2.1)) (below_size HB.out))
    have n0_ := Aside0.mk (blk_below BK2.out hb)
    have n1_ := Aside0.mk (blk_below BK5.out hb)
    have n2_ := Aside0.mk (MO_below HM.out hb)
    have n3_ := Aside0.mk (Kd.R_below HO9.out hb)
    have n4_ := Aside0.mk (below_step HB.out hb)
    clear BK2 BK5 HM HO9 HB
    have BK2 := n0_
    have BK5 := n1_
    have HM := n2_
    have HO9 := n3_
    have HB := n4_
    clear n0_ n1_ n2_ n3_ n4_ ho hb
    refine hK.out _ _ ((blk_cell BK2.out 0).trans rfl) (fun hHeld => ?_)
    clear hK K
    refine norm_ (a' := ?_) ?_ ?_
    rotate_left
    ·show Act.put _ (some 28) _ = _
     simp only [Act.put, List.setIfInBounds_toArray, List.set_cons_zero, List.set_cons_succ, i64_w, i32_w]
     rfl
    exact norm_ (by simp only [putAll, Act.put, List.setIfInBounds_toArray, List.set_cons_zero, List.set_cons_succ]) (hCont (v9, v10) _ ⟨hHeld, HO9.out, HO10.out, HM.out, BK2.out, BK5.out, HB.out⟩)
   ·skip
    refine goes_ Tryd.func25 (by kernel_rfl) rfl #[.slice A0_0 l0_0.length c0_0] (by rfl) rfl rfl (by (try simp only [List.map_toArray, List.map_cons, List.map_nil]); first | done | rfl) ?_
    refine (clone_calls _ _ l0_0 _ (Kd.C_below HR0.out HB.out) (by have := HL.out; omega)).mono ?_
    rintro e w7 ⟨v10, rfl, ho, hb⟩
    refine ⟨_, rfl, ?_⟩
    have HO10 := Aside0.mk (Kd.R_lower (Kd.R_mono (ok' := fun k_ => w.heap.size ≤ k_) (Kd.R_bound ho) (fun k_ hk => Nat.le_trans (below_size HB.out) hk.2.1)) (below_size HB.out))
    have n0_ := Aside0.mk (blk_below BK2.out hb)
    have n1_ := Aside0.mk (blk_below BK5.out hb)
    have n2_ := Aside0.mk (MO_below HM.out hb)
    have n3_ := Aside0.mk (below_step HB.out hb)
    clear BK2 BK5 HM HB
    have BK2 := n0_
    have BK5 := n1_
    have HM := n2_
    have HB := n3_
    clear n0_ n1_ n2_ n3_ ho hb
    refine hK.out _ _ ((blk_cell BK2.out 0).trans rfl) (fun hHeld => ?_)
    clear hK K
    refine norm_ (a' := ?_) ?_ ?_
    rotate_left
    ·show Act.put _ (some 28) _ = _
     simp only [Act.put, List.setIfInBounds_toArray, List.set_cons_zero, List.set_cons_succ, i64_w, i32_w]
     rfl
    refine one_ (i := 2) (N := some 25) #[true, true, true, true, true, true, false, false] rfl rfl (by kernel_rfl) (by decide) (fun K hK => ?_)
    refine value_ (w1 := w7.alloc (.cells (madeCells #[.int .i64 0] (l1.length * 1)) 3)) (v := .slice (some ⟨w7.heap.size, 0, none⟩) 0 l1.length) (by rfl) rfl ?_ ?_
    ·first | (go_simp; done) | (go_simp; rfl)
    have HO9 := Aside0.mk (Kd.R_mono (ok' := fun k_ => w.heap.size ≤ k_) (R_made (Kd.int .i64) w7 l1.length 3 w.heap.size #[.int .i64 0] (below_size HB.out) (by have := HL.out; omega)) (fun k_ hk => by rw [hk]; exact below_size HB.out))
    change Aside0 (Kd.R (Kd.int .i64) 3 (w7.alloc (.cells (madeCells #[.int .i64 0] (l1.length * 1)) 3)) _ _ _ _) at HO9
    have n0_ := Aside0.mk (blk_alloc BK2.out (.cells (madeCells #[.int .i64 0] (l1.length * 1)) 3))
    have n1_ := Aside0.mk (blk_alloc BK5.out (.cells (madeCells #[.int .i64 0] (l1.length * 1)) 3))
    have n2_ := Aside0.mk (MO_below HM.out (below_alloc (Below.refl _ _) (.cells (madeCells #[.int .i64 0] (l1.length * 1)) 3)))
    have n3_ := Aside0.mk (Kd.R_alloc HO10.out (.cells (madeCells #[.int .i64 0] (l1.length * 1)) 3))
    have n4_ := Aside0.mk (below_alloc HB.out (.cells (madeCells #[.int .i64 0] (l1.length * 1)) 3))
    clear BK2 BK5 HM HO10 HB
    have BK2 := n0_
    have BK5 := n1_
    have HM := n2_
    have HO10 := n3_
    have HB := n4_
    clear n0_ n1_ n2_ n3_ n4_
    generalize w7.alloc (.cells (madeCells #[.int .i64 0] (l1.length * 1)) 3) = w8 at HO9 HO10 BK2 BK5 HM HB ⊢
    generalize (Value.slice (some ⟨w7.heap.size, 0, none⟩) 0 l1.length) = v9 at HO9 ⊢
    refine hK.out _ _ ((blk_cell BK2.out 0).trans rfl) (fun hHeld => ?_)
    clear hK K
    refine norm_ (a' := ?_) ?_ ?_
    rotate_left
    ·show Act.put _ (some 25) _ = _
     simp only [Act.put, List.setIfInBounds_toArray, List.set_cons_zero, List.set_cons_succ, i64_w, i32_w]
     rfl
    exact norm_ (by simp only [putAll, Act.put, List.setIfInBounds_toArray, List.set_cons_zero, List.set_cons_succ]) (hCont (v9, v10) _ ⟨hHeld, HO9.out, HO10.out, HM.out, BK2.out, BK5.out, HB.out⟩)
  rintro ⟨v9, v10⟩ w9 ⟨hHeld, h0_, h1_, h2_, h3_, h4_, h5_⟩
  clear HB HM BK2 BK5
  have HO9 := Aside0.mk h0_
  have HO10 := Aside0.mk h1_
  have HM := Aside0.mk h2_
  have BK2 := Aside0.mk h3_
  have BK5 := Aside0.mk h4_
  have HB := Aside0.mk h5_
  clear h0_ h1_ h2_ h3_ h4_ h5_ hmk
  refine norm_ (a' := ?_) ?_ ?_
  rotate_left
  ·simp only [putAll, Act.put, List.setIfInBounds_toArray, List.set_cons_zero, List.set_cons_succ]
   rfl
  refine pure_ (i := 6) (N := some 9) (v := ?_) (a' := ?_) #[true, true, true, true, true, true, true, false] rfl rfl (by kernel_rfl) (fun _ _ _ h => h) (Or.inl ⟨by rfl, ?_⟩) ?_ ?_
  rotate_left
  ·intro w'
   go_simp
   with_reducible rfl
  rotate_left
  ·simp only [Act.put, List.setIfInBounds_toArray, List.set_cons_zero, List.set_cons_succ, i64_w, i32_w]
   rfl
  refine pure_ (i := 7) (N := some 10) (v := ?_) (a' := ?_) #[true, true, true, true, true, true, true, true] rfl rfl (by kernel_rfl) (fun _ _ _ h => h) (Or.inl ⟨by rfl, ?_⟩) ?_ ?_
  rotate_left
  ·intro w'
   go_simp
   with_reducible rfl
  rotate_left
  ·simp only [Act.put, List.setIfInBounds_toArray, List.set_cons_zero, List.set_cons_succ, i64_w, i32_w]
   rfl
  refine done_ (by kernel_rfl) ?_
  go_wp2
  go_loopw [9, 10, 31] (fun v9 v10 v31 wr => ∃ (j : Nat) (jv : Int) (names : List S34) (out : List Int), j ≤ l1.length ∧ jv = (j : Int) ∧ v31 = .int .i64 jv ∧ Aside0 (allGo k l0_0 (l1.drop j) names out = some (r1, r2, r3)) ∧ Aside0 (names.length ≤ l0_0.length + j) ∧ Aside0 (out.length ≤ j) ∧ Aside0 (Kd.R (Kd.int .i64) 3 wr w.heap.size (fun k_ => w.heap.size ≤ k_) v9 out) ∧ Aside0 (Kd.R k34 34 wr w.heap.size (fun k_ => w.heap.size ≤ k_) v10 names) ∧ Aside0 (MO wr mb names) ∧ Aside0 (wr.heap[g2]? = some (.cells #[.slice A0_0 l0_0.length c0_0] 24 (0, 0))) ∧ Aside0 (wr.heap[g5]? = some (.cells #[.slice none 0 0] 24 (0, 0))) ∧ Aside0 (Below w.heap.size w wr)) (fun _ _ v31 _ => l1.length - (intOf v31).toNat)
  case atStart => exact ⟨0, 0, l0_0, [], by omega, rfl, rfl, H, ⟨by omega⟩, ⟨by simp⟩, HO9, HO10, HM, BK2, BK5, HB⟩
  case round =>
   clear HB BK2 BK5 H HO9 HO10 HM hHeld
   obtain ⟨j, jv, names, out, hj, hjv, rfl, H, HNL, HOL, HO9, HO10, HM, BK2, BK5, HB⟩ := hrel
   obtain ⟨An, cn, rfl⟩ := Kd.R_slice HO10.out
   have hcf : wr.cell? ⟨g2, 0, none⟩ = some (.slice A0_0 l0_0.length c0_0) := (blk_cell BK2.out 0).trans rfl
   by_cases hlt : j < l1.length
   case neg =>
    have hnl : ¬ (jv < (l1.length : Int)) := by omega
    have h := H.out
    rw [List.drop_eq_nil_of_le (by omega)] at h
    obtain ⟨rfl, h2⟩ := Prod.mk.inj (Option.some.inj h)
    obtain ⟨rfl, rfl⟩ := Prod.mk.inj h2
    have hc5 : wr.cell? ⟨g5, 0, none⟩ = some (.slice none 0 0) := (blk_cell BK5.out 0).trans rfl
    have hf5 := blk_frozen BK5.out 0
    clear h h2 H
    go_wp2_with (first | ((with_reducible refine gate_store (t := 24) (p := 5) rfl ?_); refine store_event (t := 24) (p := 5) (v := ?vo5) (w1 := wr.setCell ⟨g5, 0, none⟩ (.slice An names.length cn)) ?hg ?ho ?hn ?hr ?_; (case ho => rfl); (case hg => rfl); (case hn => rfl); (case hr => first | (go_simp; done) | (go_simp; rfl)); intro w13 hw))
    refine bodyPost_ret (results_list (rs := [.tmp 4, .cell 5 24, .tmp 6]) rfl (by simp) (.tmp (.cell g5 24 #[.slice An names.length cn] (0, 0) _ rfl (by refine blk_put (cs := #[.slice none 0 0]) ?_ 0 _ rfl; exact BK5.out) Tryd.underlying24 rfl (by kernel_rfl) (.tmp .nil)))) rfl ?_
    refine ⟨_, _, rfl, ?_, ?_, ?_⟩
    ·exact Kd.R_mono (Kd.R_far (p := ⟨g5, 0, none⟩) (Kd.R_types HO9.out BK5.out (by intro q hq; simp [Kd.int, Kd.scalar] at hq; subst hq; decide)) (fun k_ hk => hk.2) _) (fun k_ hk => hk.1)
    ·exact Kd.R_V (Kd.R_mono (Kd.R_far (p := ⟨g5, 0, none⟩) (Kd.R_types (Kd.R_apartR HO10.out HO9.out (fun q hq => (nodeE q hq).1)) BK5.out (fun q hq => (nodeE q hq).2)) (fun k_ hk => hk.2) _) (fun k_ hk => ⟨.inr hk.1.1, hk.1.2⟩))
    ·exact below_set HB.out GE5.out
   case pos =>
    have p0 : (0 : Int) ≤ jv := by omega
    have q0 : jv < (l1.length : Int) := by omega
    obtain ⟨ad, ead, hx0, hx1⟩ := at_T34 (Kd.C_below HR1.out HB.out) jv p0 q0
    cases ead
    have hrd : rd_T34 l1 jv = l1[j] := by rw [hjv]; simp [rd_T34, rdOf, List.getD_eq_getElem?_getD, hlt]
    obtain ⟨n, hn⟩ : ∃ n, n = l1[j] := ⟨_, rfl⟩
    rw [hrd, ← hn] at hx0 hx1
    have h := H.out
    rw [List.drop_eq_getElem_cons hlt, ← hn, allGo] at h
    clear hn hrd H
    obtain ⟨p, v⟩ := n
    simp only at hx0 hx1 h
    obtain ⟨y, hy, h⟩ := Option.bind_eq_some_iff.mp h
    have Hy := Aside0.mk hy
    have Hjv := Aside0.mk hjv
    have Hlt := Aside0.mk hlt
    clear hjv hlt hj hy
    replace p0 := eq_true p0
    replace q0 := eq_true q0
    cases y with
    | false =>
     rw [if_neg (by decide)] at h
     obtain ⟨rfl, h2⟩ := Prod.mk.inj (Option.some.inj h)
     obtain ⟨rfl, rfl⟩ := Prod.mk.inj h2
     clear h h2
     go_wp2_with (first | ((with_reducible refine gate_dst (N := 12) rfl ?_); refine box_event ?hg (N := 12) ?hd (cs := #[.string ⟨#[]⟩, .string ⟨#[]⟩]) (t := 34) ?hr ?_; (case hd => rfl); (case hg => rfl); (case hr => first | (go_simp; done) | (go_simp; rfl)); intro g12 hg w10 hbox hb; have NE := Aside0.mk (show mb ≠ g12 by rw [hg]; exact Nat.ne_of_lt (MO_lt HM.out)); have GE12 := Aside0.mk (show w.heap.size ≤ g12 by rw [hg]; exact below_size HB.out); have N2 := Aside0.mk (show g2 ≠ g12 by rw [hg]; exact Nat.ne_of_lt (blk_lt BK2.out)); have N5 := Aside0.mk (show g5 ≠ g12 by rw [hg]; exact Nat.ne_of_lt (blk_lt BK5.out)); have BK12 := Aside0.mk hbox; have n0_ := Aside0.mk (Kd.R_below (Kd.R_elderB HO9.out g12 (Nat.le_of_eq hg.symm)) hb); have n1_ := Aside0.mk (Kd.R_below (Kd.R_elderB HO10.out g12 (Nat.le_of_eq hg.symm)) hb); have n2_ := Aside0.mk (MO_below HM.out hb); have n3_ := Aside0.mk (blk_below BK2.out hb); have n4_ := Aside0.mk (blk_below BK5.out hb); have n5_ := Aside0.mk (below_step HB.out hb); clear HO9 HO10 HM BK2 BK5 HB; have HO9 := n0_; have HO10 := n1_; have HM := n2_; have BK2 := n3_; have BK5 := n4_; have HB := n5_; clear n0_ n1_ n2_ n3_ n4_ n5_; clear hb hbox hg; have hcx0 : w10.cell? ⟨g12, 0, none⟩ = some (.string ⟨#[]⟩) := (blk_cell BK12.out 0).trans rfl; have hcx1 : w10.cell? ⟨g12, 1, none⟩ = some (.string ⟨#[]⟩) := (blk_cell BK12.out 1).trans rfl; have hfx0 := blk_frozen BK12.out 0; have hfx1 := blk_frozen BK12.out 1) | ((with_reducible refine gate_store (t := 34) (p := 12) rfl ?_); refine store_event (t := 34) (p := 12) (v := ?vo12) (w1 := ((w10.setCell ⟨g12, 0, none⟩ (.string p)).setCell ⟨g12, 1, none⟩ (.string v))) ?hg ?ho ?hn ?hr ?_; (case ho => rfl); (case hg => rfl); (case hn => rfl); (case hr => first | (go_simp; done) | (go_simp; rfl)); intro w11 hw; have z_HO9 : Aside0 (Kd.R (Kd.int .i64) 3 w11 w.heap.size (fun k_ => w.heap.size ≤ k_ ∧ k_ ≠ g12) (u9) out) := ⟨by rw [hw]; exact Kd.R_far (p := ⟨g12, 1, none⟩) (Kd.R_far (p := ⟨g12, 0, none⟩) HO9.out (fun k_ hk => hk.2) _) (fun k_ hk => hk.2) _⟩; have z_HO10 : Aside0 (Kd.R k34 34 w11 w.heap.size (fun k_ => w.heap.size ≤ k_ ∧ k_ ≠ g12) (.slice An names.length cn) names) := ⟨by rw [hw]; exact Kd.R_far (p := ⟨g12, 1, none⟩) (Kd.R_far (p := ⟨g12, 0, none⟩) HO10.out (fun k_ hk => hk.2) _) (fun k_ hk => hk.2) _⟩; have z_HM : Aside0 (MO w11 mb names) := ⟨by rw [hw]; exact MO_set (MO_set HM.out NE.out _) NE.out _⟩; have z_BK2 : Aside0 (w11.heap[g2]? = some (.cells #[.slice A0_0 l0_0.length c0_0] 24 (0, 0))) := ⟨by rw [hw]; exact blk_far (p := ⟨g12, 1, none⟩) (blk_far (p := ⟨g12, 0, none⟩) BK2.out N2.out _) N2.out _⟩; have z_BK5 : Aside0 (w11.heap[g5]? = some (.cells #[.slice none 0 0] 24 (0, 0))) := ⟨by rw [hw]; exact blk_far (p := ⟨g12, 1, none⟩) (blk_far (p := ⟨g12, 0, none⟩) BK5.out N5.out _) N5.out _⟩; have z_BK12 : Aside0 (w11.heap[g12]? = some (.cells #[.string p, .string v] 34 (0, 0))) := ⟨by rw [hw]; exact (by refine blk_put (cs := #[.string p, .string ⟨#[]⟩]) ?_ 1 _ rfl; exact blk_put BK12.out 0 _ rfl)⟩; have z_HB : Aside0 (Below w.heap.size w w11) := ⟨by rw [hw]; exact below_set (below_set HB.out GE12.out) GE12.out⟩; clear hw HO9 HO10 HM BK2 BK5 BK12 HB; have HO9 := z_HO9; clear z_HO9; have HO10 := z_HO10; clear z_HO10; have HM := z_HM; clear z_HM; have BK2 := z_BK2; clear z_BK2; have BK5 := z_BK5; clear z_BK5; have BK12 := z_BK12; clear z_BK12; have HB := z_HB; clear z_HB; have hcz0 : w11.cell? ⟨g12, 0, none⟩ = some (.string p) := (blk_cell BK12.out 0).trans rfl; have hcz1 : w11.cell? ⟨g12, 1, none⟩ = some (.string v) := (blk_cell BK12.out 1).trans rfl) | (go_at_call 26; refine (node_May.calls k p v false _ Hy.out).mono ?_; rintro e w12 ⟨rfl, hb⟩; have n0_ := Aside0.mk (Kd.R_below HO9.out hb); have n1_ := Aside0.mk (Kd.R_below HO10.out hb); have n2_ := Aside0.mk (MO_below HM.out hb); have n3_ := Aside0.mk (blk_below BK2.out hb); have n4_ := Aside0.mk (blk_below BK5.out hb); have n5_ := Aside0.mk (blk_below BK12.out hb); have n6_ := Aside0.mk (below_step HB.out hb); clear HO9 HO10 HM BK2 BK5 BK12 HB; have HO9 := n0_; have HO10 := n1_; have HM := n2_; have BK2 := n3_; have BK5 := n4_; have BK12 := n5_; have HB := n6_; clear n0_ n1_ n2_ n3_ n4_ n5_ n6_; clear hb; have hcf : w12.cell? ⟨g2, 0, none⟩ = some (.slice A0_0 l0_0.length c0_0) := (blk_cell BK2.out 0).trans rfl))
     have n0_ := Aside0.mk (blk_drew BK2.out)
     have n1_ := Aside0.mk (blk_drew BK5.out)
     have n2_ := Aside0.mk (below_drew1 HB.out)
     clear BK2 BK5 HB
     have BK2 := n0_
     have BK5 := n1_
     have HB := n2_
     clear n0_ n1_ n2_
     refine start_ (n := 4) (S := fun w' => w'.cell? ⟨g2, 0, none⟩ = some (.slice A0_0 l0_0.length c0_0)) (ds := []) #[false, false, false, false] (by kernel_rfl) rfl rfl ((blk_cell BK2.out 0).trans rfl) (fun hHeld => ?_)
     generalize w12.drew = w40 at BK2 BK5 HB hHeld ⊢
     refine pure_ (i := 1) (N := some 4) (v := ?_) (a' := ?_) #[false, true, false, false] rfl rfl (by kernel_rfl) (fun _ _ _ h => h) (Or.inl ⟨by rfl, ?_⟩) ?_ ?_
     rotate_left
     ·intro w'
      go_simp
      with_reducible rfl
     rotate_left
     ·simp only [Act.put, List.setIfInBounds_toArray, List.set_cons_zero, List.set_cons_succ, i64_w, i32_w]
      rfl
     refine take_ (i := 0) (N := some 38) (v := ?_) (a' := ?_) #[true, true, false, false] rfl rfl (by kernel_rfl) (fun _ _ _ h => h) (Or.inl ⟨by rfl, ?_⟩) hHeld ?_ ?_
     rotate_left
     ·rintro w' s0
      go_simp
      with_reducible rfl
     rotate_left
     ·simp only [Act.put, List.setIfInBounds_toArray, List.set_cons_zero, List.set_cons_succ, i64_w, i32_w]
      rfl
     refine one_ (i := 2) (N := none) #[true, true, true, false] rfl rfl (by kernel_rfl) (by decide) (fun K hK => ?_)
     have hs40 : w40.cell? ⟨g5, 0, none⟩ = some (.slice none 0 0) := (blk_cell BK5.out 0).trans rfl
     have hf40 := blk_frozen BK5.out 0
     have hn40 := N25.out
     have hn41 := N25.out.symm
     refine skip_ (w1 := ?_) (by rfl) rfl ?_ ?_
     rotate_left
     ·go_simp
      rfl
     refine hK.out _ _ (((cell_far (p := ⟨g5, _, none⟩) N25.out _).trans (hHeld))) (fun hHeld => ?_)
     clear hK K
     refine pure_ (i := 3) (N := some 6) (v := ?_) (a' := ?_) #[true, true, true, true] rfl rfl (by kernel_rfl) (fun _ _ _ h => h) (Or.inl ⟨by rfl, ?_⟩) ?_ ?_
     rotate_left
     ·intro w'
      go_simp
      with_reducible rfl
     rotate_left
     ·simp only [Act.put, List.setIfInBounds_toArray, List.set_cons_zero, List.set_cons_succ, i64_w, i32_w]
      rfl
     refine done_ (by kernel_rfl) ?_
     try go_wp2
     refine bodyPost_ret (results_list (rs := [.tmp 4, .cell 5 24, .tmp 6]) rfl (by simp) (.tmp (.cell g5 24 #[.slice A0_0 l0_0.length c0_0] (0, 0) _ rfl (by refine blk_put (cs := #[.slice none 0 0]) ?_ 0 _ rfl; exact BK5.out) Tryd.underlying24 rfl (by kernel_rfl) (.tmp .nil)))) rfl ?_
     exact ⟨_, _, rfl, Kd.R_nil _ _ _ _ _, Kd.V_mono (Kd.V_far (p := ⟨g5, 0, none⟩) (Kd.V_below (Kd.V_bound HS.out) HB.out) (fun k_ hk => by have h_ := hk.2; have h2_ := GE5.out; show k_ ≠ g5; omega) (.slice A0_0 l0_0.length c0_0)) (fun k_ hk => ⟨.inl hk.1, fun e_ => by cases e_⟩), below_set HB.out GE5.out⟩
    | true =>
     rw [if_pos rfl] at h
     by_cases hok : okN p v = true
     case neg => rw [if_neg hok] at h; cases h
     rw [if_pos hok] at h
     have hkey := keyOf_node hok
     have HOK := Aside0.mk hok
     clear hok
     cases hix : ixN p v names with
     | some i =>
      rw [hix] at h
      have H := Aside0.mk h
      have Hix := Aside0.mk (show (ixN p v names).isSome = true by rw [hix]; rfl)
      have Hi := Aside0.mk hix
      clear h hix
      go_wp2_with (first | ((with_reducible refine gate_dst (N := 12) rfl ?_); refine box_event ?hg (N := 12) ?hd (cs := #[.string ⟨#[]⟩, .string ⟨#[]⟩]) (t := 34) ?hr ?_; (case hd => rfl); (case hg => rfl); (case hr => first | (go_simp; done) | (go_simp; rfl)); intro g12 hg w10 hbox hb; have NE := Aside0.mk (show mb ≠ g12 by rw [hg]; exact Nat.ne_of_lt (MO_lt HM.out)); have GE12 := Aside0.mk (show w.heap.size ≤ g12 by rw [hg]; exact below_size HB.out); have N2 := Aside0.mk (show g2 ≠ g12 by rw [hg]; exact Nat.ne_of_lt (blk_lt BK2.out)); have N5 := Aside0.mk (show g5 ≠ g12 by rw [hg]; exact Nat.ne_of_lt (blk_lt BK5.out)); have BK12 := Aside0.mk hbox; have n0_ := Aside0.mk (Kd.R_below (Kd.R_elderB HO9.out g12 (Nat.le_of_eq hg.symm)) hb); have n1_ := Aside0.mk (Kd.R_below (Kd.R_elderB HO10.out g12 (Nat.le_of_eq hg.symm)) hb); have n2_ := Aside0.mk (MO_below HM.out hb); have n3_ := Aside0.mk (blk_below BK2.out hb); have n4_ := Aside0.mk (blk_below BK5.out hb); have n5_ := Aside0.mk (below_step HB.out hb); clear HO9 HO10 HM BK2 BK5 HB; have HO9 := n0_; have HO10 := n1_; have HM := n2_; have BK2 := n3_; have BK5 := n4_; have HB := n5_; clear n0_ n1_ n2_ n3_ n4_ n5_; clear hb hbox hg; have hcx0 : w10.cell? ⟨g12, 0, none⟩ = some (.string ⟨#[]⟩) := (blk_cell BK12.out 0).trans rfl; have hcx1 : w10.cell? ⟨g12, 1, none⟩ = some (.string ⟨#[]⟩) := (blk_cell BK12.out 1).trans rfl; have hfx0 := blk_frozen BK12.out 0; have hfx1 := blk_frozen BK12.out 1) | ((with_reducible refine gate_store (t := 34) (p := 12) rfl ?_); refine store_event (t := 34) (p := 12) (v := ?vo12) (w1 := ((w10.setCell ⟨g12, 0, none⟩ (.string p)).setCell ⟨g12, 1, none⟩ (.string v))) ?hg ?ho ?hn ?hr ?_; (case ho => rfl); (case hg => rfl); (case hn => rfl); (case hr => first | (go_simp; done) | (go_simp; rfl)); intro w11 hw; have z_HO9 : Aside0 (Kd.R (Kd.int .i64) 3 w11 w.heap.size (fun k_ => w.heap.size ≤ k_ ∧ k_ ≠ g12) (u9) out) := ⟨by rw [hw]; exact Kd.R_far (p := ⟨g12, 1, none⟩) (Kd.R_far (p := ⟨g12, 0, none⟩) HO9.out (fun k_ hk => hk.2) _) (fun k_ hk => hk.2) _⟩; have z_HO10 : Aside0 (Kd.R k34 34 w11 w.heap.size (fun k_ => w.heap.size ≤ k_ ∧ k_ ≠ g12) (.slice An names.length cn) names) := ⟨by rw [hw]; exact Kd.R_far (p := ⟨g12, 1, none⟩) (Kd.R_far (p := ⟨g12, 0, none⟩) HO10.out (fun k_ hk => hk.2) _) (fun k_ hk => hk.2) _⟩; have z_HM : Aside0 (MO w11 mb names) := ⟨by rw [hw]; exact MO_set (MO_set HM.out NE.out _) NE.out _⟩; have z_BK2 : Aside0 (w11.heap[g2]? = some (.cells #[.slice A0_0 l0_0.length c0_0] 24 (0, 0))) := ⟨by rw [hw]; exact blk_far (p := ⟨g12, 1, none⟩) (blk_far (p := ⟨g12, 0, none⟩) BK2.out N2.out _) N2.out _⟩; have z_BK5 : Aside0 (w11.heap[g5]? = some (.cells #[.slice none 0 0] 24 (0, 0))) := ⟨by rw [hw]; exact blk_far (p := ⟨g12, 1, none⟩) (blk_far (p := ⟨g12, 0, none⟩) BK5.out N5.out _) N5.out _⟩; have z_BK12 : Aside0 (w11.heap[g12]? = some (.cells #[.string p, .string v] 34 (0, 0))) := ⟨by rw [hw]; exact (by refine blk_put (cs := #[.string p, .string ⟨#[]⟩]) ?_ 1 _ rfl; exact blk_put BK12.out 0 _ rfl)⟩; have z_HB : Aside0 (Below w.heap.size w w11) := ⟨by rw [hw]; exact below_set (below_set HB.out GE12.out) GE12.out⟩; clear hw HO9 HO10 HM BK2 BK5 BK12 HB; have HO9 := z_HO9; clear z_HO9; have HO10 := z_HO10; clear z_HO10; have HM := z_HM; clear z_HM; have BK2 := z_BK2; clear z_BK2; have BK5 := z_BK5; clear z_BK5; have BK12 := z_BK12; clear z_BK12; have HB := z_HB; clear z_HB; have hcz0 : w11.cell? ⟨g12, 0, none⟩ = some (.string p) := (blk_cell BK12.out 0).trans rfl; have hcz1 : w11.cell? ⟨g12, 1, none⟩ = some (.string v) := (blk_cell BK12.out 1).trans rfl) | (go_at_call 26; refine (node_May.calls k p v true _ Hy.out).mono ?_; rintro e w12 ⟨rfl, hb⟩; have n0_ := Aside0.mk (Kd.R_below HO9.out hb); have n1_ := Aside0.mk (Kd.R_below HO10.out hb); have n2_ := Aside0.mk (MO_below HM.out hb); have n3_ := Aside0.mk (blk_below BK2.out hb); have n4_ := Aside0.mk (blk_below BK5.out hb); have n5_ := Aside0.mk (blk_below BK12.out hb); have n6_ := Aside0.mk (below_step HB.out hb); clear HO9 HO10 HM BK2 BK5 BK12 HB; have HO9 := n0_; have HO10 := n1_; have HM := n2_; have BK2 := n3_; have BK5 := n4_; have BK12 := n5_; have HB := n6_; clear n0_ n1_ n2_ n3_ n4_ n5_ n6_; clear hb; have hcy0 : w12.cell? ⟨g12, 0, none⟩ = some (.string p) := (blk_cell BK12.out 0).trans rfl; have hcy1 : w12.cell? ⟨g12, 1, none⟩ = some (.string v) := (blk_cell BK12.out 1).trans rfl; obtain ⟨D, hown, hDD⟩ := HM.out; have hD := Aside0.mk (hDD.2 p v HOK.out); clear hDD; have hhas := hD.out.1; rw [Hix.out] at hhas) | (at_lookup; refine wpList_lookup_own_ok_int _ rfl _ _ 53 rfl 34 3 .i64 keyed_node Tryd.underlying53 Tryd.underlying3 (zero_int _) mb _ D rfl hown _ _ rfl hkey ?_; intro c hat hwc; rw [hhas]) | ((with_reducible refine gate_builtin (b := .append) (xs := #[.tmp 56, .tmp 58]) rfl ?_); at_builtin; refine Kd.R_append (Kd.int .i64) (w0 := w) w.heap.size rfl (.tmp 56) (.tmp 58) 27 3 (.int .i64 0) 8 rfl Tryd.underlying27 info3 rfl (by decide) (by omega) _ out (c) [.int .i64 (c)] (fun k_ => w.heap.size ≤ k_) (fun _ => False) rfl rfl ?aP (fun _ hk => hk.elim) ?aF ?aO ?aB ?aS ?aL ?_; (case aP => rfl); (case aB => exact HB.out); (case aF => exact (fun k_ hk => Nat.le_trans (below_size HB.out) hk)); (case aO => exact Kd.R_mono HO9.out (fun _ hk => hk.1)); (case aS => exact below_size HB.out); (case aL => have := HOL.out; have := Hlt.out; have := HL.out; omega); intro v30 w30 ho hb hg hat_; have HOa := Aside0.mk (Kd.R_apartR HO10.out HO9.out (fun q hq => (nodeE q hq).1)); have n0_ := Aside0.mk (MO_grown HM.out hg (MO_away HM.out HO9.out)); have n1_ := Aside0.mk (blk_grown BK2.out hg (Kd.R_ne HO9.out BK2.out (by decide))); have n2_ := Aside0.mk (blk_grown BK5.out hg (Kd.R_ne HO9.out BK5.out (by decide))); have n3_ := Aside0.mk (Kd.R_mono (ok' := fun k_ => w.heap.size ≤ k_) (Kd.R_grown HOa.out hg (fun k_ hk => hk.2)) (fun k_ hk => hk.1.1)); have n4_ := Aside0.mk (ho); have n5_ := Aside0.mk (hb); clear HM BK2 BK5 HO10 HO9 HB; have HM := n0_; have BK2 := n1_; have BK5 := n2_; have HO10 := n3_; have HO9 := n4_; have HB := n5_; clear n0_ n1_ n2_ n3_ n4_ n5_; clear HOa; clear ho hb hg hat_))
      refine ⟨?rel, ?measure⟩
      case measure =>
       show l1.length - (wrap64 (jv + 1)).toNat < l1.length - jv.toNat
       have := Hjv.out
       have := Hlt.out
       have := HL.out
       unfold wrap64
       omega
      case rel =>
       have hat2 := hD.out.2 i Hi.out
       rw [hat] at hat2
       injection hat2 with hat2
       injection hat2 with _ hat2
       subst hat2
       exact ⟨j + 1, wrap64 (jv + 1), names, _, by have := Hlt.out; omega, by have := Hjv.out; have := Hlt.out; have := HL.out; unfold wrap64; omega, rfl, H, ⟨by have := HNL.out; omega⟩, ⟨by rw [List.length_append]; have := HOL.out; simp only [List.length_cons, List.length_nil]; omega⟩, HO9, HO10, HM, BK2, BK5, HB⟩
     | none =>
      rw [hix] at h
      have H := Aside0.mk h
      have Hix := Aside0.mk (show (ixN p v names).isSome = false by rw [hix]; rfl)
      have Hi := Aside0.mk hix
      clear h hix
      have hwf : (Lit.int .i64 (names.length : Int)).wf = true := WalkArith.wf_i64 (by have := HNL.out; have := Hlt.out; have := HL.out; omega)
      go_wp2_with (first | ((with_reducible refine gate_dst (N := 12) rfl ?_); refine box_event ?hg (N := 12) ?hd (cs := #[.string ⟨#[]⟩, .string ⟨#[]⟩]) (t := 34) ?hr ?_; (case hd => rfl); (case hg => rfl); (case hr => first | (go_simp; done) | (go_simp; rfl)); intro g12 hg w10 hbox hb; have NE := Aside0.mk (show mb ≠ g12 by rw [hg]; exact Nat.ne_of_lt (MO_lt HM.out)); have GE12 := Aside0.mk (show w.heap.size ≤ g12 by rw [hg]; exact below_size HB.out); have N2 := Aside0.mk (show g2 ≠ g12 by rw [hg]; exact Nat.ne_of_lt (blk_lt BK2.out)); have N5 := Aside0.mk (show g5 ≠ g12 by rw [hg]; exact Nat.ne_of_lt (blk_lt BK5.out)); have BK12 := Aside0.mk hbox; have n0_ := Aside0.mk (Kd.R_below (Kd.R_elderB HO9.out g12 (Nat.le_of_eq hg.symm)) hb); have n1_ := Aside0.mk (Kd.R_below (Kd.R_elderB HO10.out g12 (Nat.le_of_eq hg.symm)) hb); have n2_ := Aside0.mk (MO_below HM.out hb); have n3_ := Aside0.mk (blk_below BK2.out hb); have n4_ := Aside0.mk (blk_below BK5.out hb); have n5_ := Aside0.mk (below_step HB.out hb); clear HO9 HO10 HM BK2 BK5 HB; have HO9 := n0_; have HO10 := n1_; have HM := n2_; have BK2 := n3_; have BK5 := n4_; have HB := n5_; clear n0_ n1_ n2_ n3_ n4_ n5_; clear hb hbox hg; have hcx0 : w10.cell? ⟨g12, 0, none⟩ = some (.string ⟨#[]⟩) := (blk_cell BK12.out 0).trans rfl; have hcx1 : w10.cell? ⟨g12, 1, none⟩ = some (.string ⟨#[]⟩) := (blk_cell BK12.out 1).trans rfl; have hfx0 := blk_frozen BK12.out 0; have hfx1 := blk_frozen BK12.out 1) | ((with_reducible refine gate_store (t := 34) (p := 12) rfl ?_); refine store_event (t := 34) (p := 12) (v := ?vo12) (w1 := ((w10.setCell ⟨g12, 0, none⟩ (.string p)).setCell ⟨g12, 1, none⟩ (.string v))) ?hg ?ho ?hn ?hr ?_; (case ho => rfl); (case hg => rfl); (case hn => rfl); (case hr => first | (go_simp; done) | (go_simp; rfl)); intro w11 hw; have z_HO9 : Aside0 (Kd.R (Kd.int .i64) 3 w11 w.heap.size (fun k_ => w.heap.size ≤ k_ ∧ k_ ≠ g12) (u9) out) := ⟨by rw [hw]; exact Kd.R_far (p := ⟨g12, 1, none⟩) (Kd.R_far (p := ⟨g12, 0, none⟩) HO9.out (fun k_ hk => hk.2) _) (fun k_ hk => hk.2) _⟩; have z_HO10 : Aside0 (Kd.R k34 34 w11 w.heap.size (fun k_ => w.heap.size ≤ k_ ∧ k_ ≠ g12) (.slice An names.length cn) names) := ⟨by rw [hw]; exact Kd.R_far (p := ⟨g12, 1, none⟩) (Kd.R_far (p := ⟨g12, 0, none⟩) HO10.out (fun k_ hk => hk.2) _) (fun k_ hk => hk.2) _⟩; have z_HM : Aside0 (MO w11 mb names) := ⟨by rw [hw]; exact MO_set (MO_set HM.out NE.out _) NE.out _⟩; have z_BK2 : Aside0 (w11.heap[g2]? = some (.cells #[.slice A0_0 l0_0.length c0_0] 24 (0, 0))) := ⟨by rw [hw]; exact blk_far (p := ⟨g12, 1, none⟩) (blk_far (p := ⟨g12, 0, none⟩) BK2.out N2.out _) N2.out _⟩; have z_BK5 : Aside0 (w11.heap[g5]? = some (.cells #[.slice none 0 0] 24 (0, 0))) := ⟨by rw [hw]; exact blk_far (p := ⟨g12, 1, none⟩) (blk_far (p := ⟨g12, 0, none⟩) BK5.out N5.out _) N5.out _⟩; have z_BK12 : Aside0 (w11.heap[g12]? = some (.cells #[.string p, .string v] 34 (0, 0))) := ⟨by rw [hw]; exact (by refine blk_put (cs := #[.string p, .string ⟨#[]⟩]) ?_ 1 _ rfl; exact blk_put BK12.out 0 _ rfl)⟩; have z_HB : Aside0 (Below w.heap.size w w11) := ⟨by rw [hw]; exact below_set (below_set HB.out GE12.out) GE12.out⟩; clear hw HO9 HO10 HM BK2 BK5 BK12 HB; have HO9 := z_HO9; clear z_HO9; have HO10 := z_HO10; clear z_HO10; have HM := z_HM; clear z_HM; have BK2 := z_BK2; clear z_BK2; have BK5 := z_BK5; clear z_BK5; have BK12 := z_BK12; clear z_BK12; have HB := z_HB; clear z_HB; have hcz0 : w11.cell? ⟨g12, 0, none⟩ = some (.string p) := (blk_cell BK12.out 0).trans rfl; have hcz1 : w11.cell? ⟨g12, 1, none⟩ = some (.string v) := (blk_cell BK12.out 1).trans rfl) | (go_at_call 26; refine (node_May.calls k p v true _ Hy.out).mono ?_; rintro e w12 ⟨rfl, hb⟩; have n0_ := Aside0.mk (Kd.R_below HO9.out hb); have n1_ := Aside0.mk (Kd.R_below HO10.out hb); have n2_ := Aside0.mk (MO_below HM.out hb); have n3_ := Aside0.mk (blk_below BK2.out hb); have n4_ := Aside0.mk (blk_below BK5.out hb); have n5_ := Aside0.mk (blk_below BK12.out hb); have n6_ := Aside0.mk (below_step HB.out hb); clear HO9 HO10 HM BK2 BK5 BK12 HB; have HO9 := n0_; have HO10 := n1_; have HM := n2_; have BK2 := n3_; have BK5 := n4_; have BK12 := n5_; have HB := n6_; clear n0_ n1_ n2_ n3_ n4_ n5_ n6_; clear hb; have hcy0 : w12.cell? ⟨g12, 0, none⟩ = some (.string p) := (blk_cell BK12.out 0).trans rfl; have hcy1 : w12.cell? ⟨g12, 1, none⟩ = some (.string v) := (blk_cell BK12.out 1).trans rfl; obtain ⟨D, hown, hDD⟩ := HM.out; have hD := Aside0.mk (hDD.2 p v HOK.out); clear hDD; have hhas := hD.out.1; rw [Hix.out] at hhas) | (at_lookup; refine wpList_lookup_own_ok_int _ rfl _ _ 53 rfl 34 3 .i64 keyed_node Tryd.underlying53 Tryd.underlying3 (zero_int _) mb _ D rfl hown _ _ rfl hkey ?_; intro c hat hwc; rw [hhas]))
      have n0_ := Aside0.mk (Kd.R_drew HO9.out)
      have n1_ := Aside0.mk (Kd.R_drew HO10.out)
      have n2_ := Aside0.mk (MO_below HM.out (below_drew (Below.refl _ _)))
      have n3_ := Aside0.mk (blk_drew BK2.out)
      have n4_ := Aside0.mk (blk_drew BK5.out)
      have n5_ := Aside0.mk (blk_drew BK12.out)
      have n6_ := Aside0.mk (below_drew1 HB.out)
      clear HO9 HO10 HM BK2 BK5 BK12 HB
      have HO9 := n0_
      have HO10 := n1_
      have HM := n2_
      have BK2 := n3_
      have BK5 := n4_
      have BK12 := n5_
      have HB := n6_
      clear n0_ n1_ n2_ n3_ n4_ n5_ n6_ hown hcy0 hcy1
      refine start_ (n := 9) (S := fun w' => w'.cell? ⟨g12, 0, none⟩ = some (.string p) ∧ w'.cell? ⟨g12, 1, none⟩ = some (.string v)) (ds := []) #[false, false, false, false, false, false, false, false, false] (by kernel_rfl) rfl rfl ⟨(blk_cell BK12.out 0).trans rfl, (blk_cell BK12.out 1).trans rfl⟩ (fun hHeld => ?_)
      generalize w12.drew = w20 at HO9 HO10 HM BK2 BK5 BK12 HB hHeld ⊢
      refine pure_ (i := 0) (N := some 49) (v := ?_) (a' := ?_) #[true, false, false, false, false, false, false, false, false] rfl rfl (by kernel_rfl) (fun _ _ _ h => h) (Or.inl ⟨by rfl, ?_⟩) ?_ ?_
      rotate_left
      ·intro w'
       go_simp
       with_reducible rfl
      rotate_left
      ·simp only [Act.put, List.setIfInBounds_toArray, List.set_cons_zero, List.set_cons_succ, i64_w, i32_w]
       rfl
      refine take_ (i := 1) (N := some 50) (v := ?_) (a' := ?_) #[true, true, false, false, false, false, false, false, false] rfl rfl (by kernel_rfl) (fun _ _ _ h => h) (Or.inl ⟨by rfl, ?_⟩) hHeld ?_ ?_
      rotate_left
      ·rintro w' ⟨s0, s1⟩
       go_simp
       with_reducible rfl
      rotate_left
      ·simp only [Act.put, List.setIfInBounds_toArray, List.set_cons_zero, List.set_cons_succ, i64_w, i32_w]
       rfl
      refine pure_ (i := 2) (N := some 51) (v := ?_) (a' := ?_) #[true, true, true, false, false, false, false, false, false] rfl rfl (by kernel_rfl) (fun _ _ _ h => h) (Or.inl ⟨by rfl, ?_⟩) ?_ ?_
      rotate_left
      ·intro w'
       go_simp
       with_reducible rfl
      rotate_left
      ·simp only [Act.put, List.setIfInBounds_toArray, List.set_cons_zero, List.set_cons_succ, i64_w, i32_w]
       rfl
      refine take_ (i := 3) (N := some 52) (v := ?_) (a' := ?_) #[true, true, true, true, false, false, false, false, false] rfl rfl (by kernel_rfl) (fun _ _ _ h => h) (Or.inl ⟨by rfl, ?_⟩) hHeld ?_ ?_
      rotate_left
      ·rintro w' ⟨s0, s1⟩
       go_simp
       with_reducible rfl
      rotate_left
      ·simp only [Act.put, List.setIfInBounds_toArray, List.set_cons_zero, List.set_cons_succ, i64_w, i32_w]
       rfl
      refine pure_ (i := 6) (N := some 55) (v := ?_) (a' := ?_) #[true, true, true, true, false, false, true, false, false] rfl rfl (by kernel_rfl) (fun _ _ _ h => h) (Or.inl ⟨by rfl, ?_⟩) ?_ ?_
      rotate_left
      ·intro w'
       go_simp
       with_reducible rfl
      rotate_left
      ·simp only [Act.put, List.setIfInBounds_toArray, List.set_cons_zero, List.set_cons_succ, i64_w, i32_w]
       rfl
      refine one_ (i := 4) (N := some 53) #[true, true, true, true, true, false, true, false, false] rfl rfl (by kernel_rfl) (by decide) (fun K hK => ?_)
      refine value_ (w1 := w20.alloc (.cells #[.string p, .string v] 34)) (v := .slice (some ⟨w20.heap.size, 0, none⟩) 1 1) (by rfl) rfl ?_ ?_
      ·first | (go_simp; done) | (go_simp; rfl)
      refine hK.out _ _ ⟨(blk_cell (blk_alloc BK12.out (.cells #[.string p, .string v] 34)) 0).trans rfl, (blk_cell (blk_alloc BK12.out (.cells #[.string p, .string v] 34)) 1).trans rfl⟩ (fun hHeld => ?_)
      clear hK K
      refine norm_ (a' := ?_) ?_ ?_
      rotate_left
      ·show Act.put _ (some 53) _ = _
       simp only [Act.put, List.setIfInBounds_toArray, List.set_cons_zero, List.set_cons_succ, i64_w, i32_w]
       rfl
      refine one_ (i := 5) (N := some 54) #[true, true, true, true, true, true, true, false, false] rfl rfl (by kernel_rfl) (by decide) (fun K hK => ?_)
      refine Kd.R_append_step k34 (w0 := w) (W := w20) w.heap.size (by rfl) (.tmp 51) (.tmp 53) 22 34 (.agg #[(.string ⟨#[]⟩), (.string ⟨#[]⟩)]) 32 rfl Tryd.underlying22 info34 rfl (by decide) (by omega) (.slice An names.length cn) names (⟨p, v⟩ : S34) [.string p, .string v] (fun k_ => w.heap.size ≤ k_ ∧ k_ ≠ g12) (fun _ => False) rfl rfl ?aP (fun _ hk => hk.elim) ?aF ?aO ?aB ?aS ?aL ?_
      (case aP => exact k34_mkM _ _ _ (⟨p, v⟩ : S34))
      (case aB => exact HB.out)
      (case aF => exact (fun k_ hk => ⟨Nat.le_trans (below_size HB.out) hk, Kd.freshB BK12.out k_ hk⟩))
      (case aO => exact HO10.out)
      (case aS => exact below_size HB.out)
      (case aL => have := HNL.out; have := Hlt.out; have := HL.out; omega)
      intro v22 w22 ho hb hg hat_
      have HOa := Aside0.mk (Kd.R_apartR HO9.out HO10.out intE)
      have n0_ := Aside0.mk (MO_grown HM.out hg (MO_away HM.out HO10.out))
      have n1_ := Aside0.mk (blk_grown BK2.out hg (Kd.R_ne HO10.out BK2.out (by decide)))
      have n2_ := Aside0.mk (blk_grown BK5.out hg (Kd.R_ne HO10.out BK5.out (by decide)))
      have n3_ := Aside0.mk (blk_grown BK12.out hg (Kd.R_away HO10.out (fun _ hk => hk.2)))
      have n4_ := Aside0.mk (Kd.R_mono (Kd.R_grown HOa.out hg (fun k_ hk => hk.2)) (fun k_ hk => hk.1))
      have n5_ := Aside0.mk (ho)
      have n6_ := Aside0.mk (hb)
      clear HM BK2 BK5 BK12 HO9 HO10 HB
      have HM := n0_
      have BK2 := n1_
      have BK5 := n2_
      have BK12 := n3_
      have HO9 := n4_
      have HO10 := n5_
      have HB := n6_
      clear n0_ n1_ n2_ n3_ n4_ n5_ n6_ HOa ho hb hg hat_
      refine hK.out _ _ ⟨(blk_cell BK12.out 0).trans rfl, (blk_cell BK12.out 1).trans rfl⟩ (fun hHeld => ?_)
      clear hK K
      refine norm_ (a' := ?_) ?_ ?_
      rotate_left
      ·show Act.put _ (some 54) _ = _
       simp only [Act.put, List.setIfInBounds_toArray, List.set_cons_zero, List.set_cons_succ, i64_w, i32_w]
       rfl
      refine pure_ (i := 7) (N := some 10) (v := ?_) (a' := ?_) #[true, true, true, true, true, true, true, true, false] rfl rfl (by kernel_rfl) (fun _ _ _ h => h) (Or.inl ⟨by rfl, ?_⟩) ?_ ?_
      rotate_left
      ·intro w'
       go_simp
       with_reducible rfl
      rotate_left
      ·simp only [Act.put, List.setIfInBounds_toArray, List.set_cons_zero, List.set_cons_succ, i64_w, i32_w]
       rfl
      refine one_ (i := 8) (N := none) #[true, true, true, true, true, true, true, true, true] rfl rfl (by kernel_rfl) (by decide) (fun K hK => ?_)
      obtain ⟨D2, hown2, hE⟩ := HM.out
      obtain ⟨w24, hrun, hown3, hgrow3⟩ := hown2.update keyed_node Tryd.underlying53 (by have := HNL.out; have := Hlt.out; have := HL.out; unfold maxLen; omega) hkey (plainElem_int Tryd.underlying3 hwf)
      refine skip_ (w1 := w24) (by rfl) rfl ?_ ?_
      ·first | (go_simp; done) | (go_simp; rfl)
      have n0_ := Aside0.mk (R_mapped HM.out HO9.out hgrow3)
      have n1_ := Aside0.mk (R_mapped HM.out HO10.out hgrow3)
      have n2_ := Aside0.mk (blk_grown BK2.out hgrow3 (fun e_ => MO_ne HM.out BK2.out (Option.some.inj e_).symm))
      have n3_ := Aside0.mk (blk_grown BK5.out hgrow3 (fun e_ => MO_ne HM.out BK5.out (Option.some.inj e_).symm))
      have n4_ := Aside0.mk (blk_grown BK12.out hgrow3 (fun e_ => MO_ne HM.out BK12.out (Option.some.inj e_).symm))
      have n5_ := Aside0.mk (pw_below_grown HB.out _ (below_size HB.out) hgrow3 (fun k_ hk_ => Nat.le_trans GW.out (Nat.le_of_eq (Option.some.inj hk_))))
      clear HO9 HO10 BK2 BK5 BK12 HB
      have HO9 := n0_
      have HO10 := n1_
      have BK2 := n2_
      have BK5 := n3_
      have BK12 := n4_
      have HB := n5_
      clear n0_ n1_ n2_ n3_ n4_ n5_
      have n0_ : Aside0 (MO w24 mb (names ++ [(⟨p, v⟩ : S34)])) := ⟨_, by rw [List.length_append]; exact hown3, mapIs_put hE HOK.out Hi.out⟩
      clear HM
      have HM := n0_
      clear n0_ hown2 hown3 hrun hgrow3 hE
      refine hK.out _ _ ⟨(blk_cell BK12.out 0).trans rfl, (blk_cell BK12.out 1).trans rfl⟩ (fun hHeld => ?_)
      clear hK K
      refine done_ (by kernel_rfl) ?_
      go_wp2_with (first | ((with_reducible refine gate_builtin (b := .append) (xs := #[.tmp 56, .tmp 58]) rfl ?_); at_builtin; refine Kd.R_append (Kd.int .i64) (w0 := w) w.heap.size rfl (.tmp 56) (.tmp 58) 27 3 (.int .i64 0) 8 rfl Tryd.underlying27 info3 rfl (by decide) (by omega) _ out (names.length : Int) [.int .i64 (names.length : Int)] (fun k_ => w.heap.size ≤ k_) (fun _ => False) rfl rfl ?aP (fun _ hk => hk.elim) ?aF ?aO ?aB ?aS ?aL ?_; (case aP => rfl); (case aB => exact HB.out); (case aF => exact (fun k_ hk => Nat.le_trans (below_size HB.out) hk)); (case aO => exact Kd.R_mono HO9.out (fun _ hk => hk.1)); (case aS => exact below_size HB.out); (case aL => have := HOL.out; have := Hlt.out; have := HL.out; omega); intro v30 w30 ho hb hg hat_; have HOa := Aside0.mk (Kd.R_apartR HO10.out HO9.out (fun q hq => (nodeE q hq).1)); have n0_ := Aside0.mk (MO_grown HM.out hg (MO_away HM.out HO9.out)); have n1_ := Aside0.mk (blk_grown BK2.out hg (Kd.R_ne HO9.out BK2.out (by decide))); have n2_ := Aside0.mk (blk_grown BK5.out hg (Kd.R_ne HO9.out BK5.out (by decide))); have n3_ := Aside0.mk (Kd.R_mono (ok' := fun k_ => w.heap.size ≤ k_) (Kd.R_grown HOa.out hg (fun k_ hk => hk.2)) (fun k_ hk => hk.1.1)); have n4_ := Aside0.mk (ho); have n5_ := Aside0.mk (hb); clear HM BK2 BK5 HO10 HO9 HB; have HM := n0_; have BK2 := n1_; have BK5 := n2_; have HO10 := n3_; have HO9 := n4_; have HB := n5_; clear n0_ n1_ n2_ n3_ n4_ n5_; clear HOa; clear ho hb hg hat_))
      refine ⟨?rel, ?measure⟩
      case measure =>
       show l1.length - (wrap64 (jv + 1)).toNat < l1.length - jv.toNat
       have := Hjv.out
       have := Hlt.out
       have := HL.out
       unfold wrap64
       omega
      case rel => exact ⟨j + 1, wrap64 (jv + 1), _, _, by have := Hlt.out; omega, by have := Hjv.out; have := Hlt.out; have := HL.out; unfold wrap64; omega, rfl, H, ⟨by rw [List.length_append]; have := HNL.out; simp only [List.length_cons, List.length_nil]; omega⟩, ⟨by rw [List.length_append]; have := HOL.out; simp only [List.length_cons, List.length_nil]; omega⟩, HO9, HO10, HM, BK2, BK5, HB⟩

end Go.Proofs.YtjneghnknfhboaaDoor.P
