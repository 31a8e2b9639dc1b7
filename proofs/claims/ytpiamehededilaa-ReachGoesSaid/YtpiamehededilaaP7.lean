-- Written by this project's own program (wip/tools/hp.py), driving the kit's print; hand texts among it. Not trusted: Lean checks it.
-- half the indentation
import Derived.Test.YtpiamehededilaaP0
import Derived.Test.YtpiamehededilaaP4
namespace Go.Proofs.Ytpiamehededilaa.P
open Go.RowKit Go.Proofs.YtpiamehededilaaW.PrintWords Go.Proofs.YtpiamehededilaaW.PrintLast Go.Proofs.YtpiamehededilaaW.PrintMore
attribute [local go_sem] max2_int min2_int max_two min_two max_three min_three max_four min_four   -- for this text's walks alone
set_option linter.unusedVariables false
set_option linter.unusedSimpArgs false

/-! ### HAND graftwoodref15_Sorted -/
/-- Where a number goes: behind the last one of the first n that is not greater. -/
def atE (out : List Int) (x : Int) : Nat → Nat
 | 0 => 0
 | n + 1 => if x < rd out (n : Int) then atE out x n else n + 1
def insI (out : List Int) (x : Int) : List Int := out.take (atE out x out.length) ++ x :: out.drop (atE out x out.length)
def sortI (l : List Int) : List Int := l.foldl insI []
def graftwoodref15_Sorted.f (l0 : List Int) : Option (List Int) := if l0.length ≤ 1000000000 then some (sortI l0) else none
theorem insI_len (out : List Int) (x : Int) : (insI out x).length = out.length + 1 := by
 unfold insI
 rw [List.length_append, List.length_cons, List.length_take, List.length_drop]
 omega
theorem foldI_len : ∀ (l out : List Int), (l.foldl insI out).length = out.length + l.length
 | [], out => by simp
 | x :: l, out => by rw [List.foldl_cons, foldI_len l, insI_len, List.length_cons]; omega
theorem sortI_len (l : List Int) : (sortI l).length = l.length := by unfold sortI; rw [foldI_len]; simp
theorem sortI_snoc (l : List Int) (x : Int) : sortI (l ++ [x]) = insI (sortI l) x := by unfold sortI; rw [List.foldl_append]; rfl
theorem ints_inner {xs : List Int} {cs : List Value} (h : Reps (Fr (Kd.int .i64)) 1 xs cs) : cs = xs.map (fun x => .int .i64 x) := by
 apply List.ext_getElem?
 intro j
 rw [List.getElem?_map]
 have hl := h.1
 rw [Nat.mul_one] at hl
 cases hx : xs[j]? with
 | none =>
  rw [List.getElem?_eq_none_iff] at hx
  rw [Option.map_none, List.getElem?_eq_none_iff]
  omega
 | some x =>
  have h2 := h.2 j x hx default 0 (fun _ => True)
  rw [Nat.mul_one] at h2
  have h3 : (cs.drop j).take 1 = [.int .i64 x] := h2
  have h4 : ((cs.drop j).take 1)[0]? = some (.int .i64 x) := by rw [h3]; rfl
  rw [List.getElem?_take_of_lt (by omega), List.getElem?_drop, Nat.add_zero] at h4
  rw [h4]; rfl
theorem inner_ints (xs : List Int) : Reps (Fr (Kd.int .i64)) 1 xs (xs.map (fun x => .int .i64 x)) := by
 refine ⟨by simp, fun j p hj => ?_⟩
 rw [Nat.mul_one, ← List.map_drop, ← List.map_take]
 have h1 : (xs.drop j).take 1 = [p] := by
  have hjl := (List.getElem?_eq_some_iff.1 hj).1
  rw [List.drop_eq_getElem_cons hjl]
  simp only [List.take_succ_cons, List.take_zero]
  rw [(List.getElem?_eq_some_iff.1 hj).2]
 rw [h1]
 exact fun _ _ _ => rfl
theorem free_intK : FreeK (Kd.int .i64) := ⟨fun _ _ _ _ _ h _ _ _ => h, fun _ _ _ h _ _ _ => h⟩
theorem atE_stop (out : List Int) (x : Int) (a : Nat) (h : ¬ (0 < a ∧ x < rd out ((a : Int) - 1))) : atE out x a = a := by
 cases a with
 | zero => rfl
 | succ n =>
  rw [atE, if_neg]
  intro hx
  exact h ⟨by omega, by rw [show ((n + 1 : Nat) : Int) - 1 = (n : Int) by omega]; exact hx⟩
theorem atE_go (out : List Int) (x : Int) (a : Nat) (h0 : 0 < a) (hx : x < rd out ((a : Int) - 1)) : atE out x a = atE out x (a - 1) := by
 obtain ⟨n, rfl⟩ : ∃ n, a = n + 1 := ⟨a - 1, by omega⟩
 rw [show ((n + 1 : Nat) : Int) - 1 = (n : Int) by omega] at hx
 rw [atE, if_pos hx, Nat.add_sub_cancel]
/-- What the copy and the store leave of a row that has one place more. -/
theorem shift_list (L : List Value) (out : List Int) (x : Int) (a : Nat) (ha : a ≤ out.length) (hL : L.take (out.length + 1) = (out ++ [0]).map (fun x => Value.int .i64 x)) (hl : out.length + 1 ≤ L.length) :
  let L1 := L.take (a + 1) ++ (out.drop a).map (fun x => Value.int .i64 x) ++ L.drop (a + 1 + (out.drop a).length)
  L1.length = L.length ∧ (L1.set a (.int .i64 x)).take (out.length + 1) = (out.take a ++ x :: out.drop a).map (fun x => Value.int .i64 x) := by
 intro L1
 have e1 : L1.length = L.length := by
  show (L.take (a + 1) ++ (out.drop a).map (fun x => Value.int .i64 x) ++ L.drop (a + 1 + (out.drop a).length)).length = _
  simp only [List.length_append, List.length_take, List.length_map, List.length_drop]
  omega
 refine ⟨e1, ?_⟩
 apply List.ext_getElem?
 intro j
 by_cases hj : j < out.length + 1
 case neg =>
  rw [List.getElem?_eq_none (by rw [List.length_take, List.length_set, e1]; omega), List.getElem?_eq_none (by simp; omega)]
 rw [List.getElem?_take_of_lt hj, List.getElem?_map]
 by_cases hja : j = a
 ·subst hja
  rw [List.getElem?_set_self (by rw [e1]; omega), List.getElem?_append_right (by rw [List.length_take]; omega), List.length_take, Nat.min_eq_left ha, Nat.sub_self]
  rfl
 rw [List.getElem?_set_ne (Ne.symm hja)]
 by_cases hlt : j < a
 ·have hk : L1[j]? = L[j]? := by
   show (L.take (a + 1) ++ (out.drop a).map (fun x => Value.int .i64 x) ++ L.drop (a + 1 + (out.drop a).length))[j]? = _
   rw [List.append_assoc, List.getElem?_append_left (by rw [List.length_take]; omega), List.getElem?_take_of_lt (by omega)]
  have hk2 : L[j]? = (L.take (out.length + 1))[j]? := by rw [List.getElem?_take_of_lt (by omega)]
  rw [hk, hk2, hL, List.getElem?_map, List.getElem?_append_left (by omega), List.getElem?_append_left (by rw [List.length_take]; omega), List.getElem?_take_of_lt hlt]
 ·have hk : L1[j]? = ((out.drop a).map (fun x => Value.int .i64 x))[j - (a + 1)]? := by
   show (L.take (a + 1) ++ (out.drop a).map (fun x => Value.int .i64 x) ++ L.drop (a + 1 + (out.drop a).length))[j]? = _
   rw [List.append_assoc, List.getElem?_append_right (by rw [List.length_take]; omega), List.length_take, Nat.min_eq_left (by omega), List.getElem?_append_left (by rw [List.length_map, List.length_drop]; omega)]
  rw [hk, List.getElem?_map, List.getElem?_append_right (by rw [List.length_take]; omega), List.length_take, Nat.min_eq_left ha]
  obtain ⟨m, hm⟩ : ∃ m, j - a = m + 1 := ⟨j - a - 1, by omega⟩
  rw [hm, List.getElem?_cons_succ, show j - (a + 1) = m by omega]
set_option maxRecDepth 100000 in
set_option maxHeartbeats 4000000 in
theorem graftwoodref15_Sorted.calls (A0 : Option Addr) (c0 : Nat) (l0 : List Int) (r : List Int) (w : World) (hr0 : Kd.C (Kd.int .i64) w A0 l0.length l0) (hc0 : l0.length ≤ c0) (h : graftwoodref15_Sorted.f l0 = some r) :
  Calls Try.prog 40 #[.slice A0 l0.length c0] w fun e w' => ∃ v0_ : Value, e = .returned v0_ ∧ Kd.R (Kd.int .i64) 3 w' w.heap.size (fun _ => True) v0_ r ∧ Below w.heap.size w w' := by
 unfold graftwoodref15_Sorted.f at h
 split at h
 case isFalse => cases h
 rename_i hlen
 obtain rfl := Option.some.inj h
 have HR0 := Aside0.mk hr0
 have HL := Aside0.mk hlen
 have HB := Aside0.mk (Below.refl w.heap.size w)
 clear hr0 hc0 h hlen
 have hlen63 : l0.length ≤ 9223372036854775807 := by have := HL.out; omega
 go_enter Try.func40, Try.ntmps40
 go_wp2
 go_loopw [3, 4] (fun v3 v4 wr => ∃ (j : Nat) (jv : Int), j ≤ l0.length ∧ jv = (j : Int) ∧ v4 = .int .i64 jv ∧ Aside0 (Kd.R (Kd.int .i64) 3 wr w.heap.size (fun _ => True) v3 (sortI (l0.take j))) ∧ Aside0 (Below w.heap.size w wr)) (fun _ v4 _ => l0.length - (intOf v4).toNat)
 case atStart => exact ⟨0, 0, by omega, rfl, rfl, ⟨by rw [List.take_zero]; exact Kd.R_nil _ _ _ _ _⟩, HB⟩
 case round =>
  clear HB
  obtain ⟨j, jv, hj, hjv, rfl, HO, HB⟩ := hrel
  by_cases hlt : j < l0.length
  case neg =>
   have hnl : ¬ (jv < (l0.length : Int)) := by omega
   have ho := HO.out
   rw [List.take_of_length_le (by omega)] at ho
   have HO := Aside0.mk ho
   clear ho
   go_wp2
   go_ret
   exact ⟨_, rfl, HO.out, HB.out⟩
  case pos =>
   have p0 : (0 : Int) ≤ jv := by omega
   have q0 : jv < (l0.length : Int) := by omega
   have hrd : rd l0 jv = l0[j] := by rw [hjv]; simp [rd, List.getD_eq_getElem?_getD, hlt]
   obtain ⟨x, hx⟩ : ∃ x, x = l0[j] := ⟨_, rfl⟩
   rw [← hx] at hrd
   have htk : l0.take (j + 1) = l0.take j ++ [x] := by rw [List.take_succ_eq_append_getElem hlt, hx]
   have HX := Aside0.mk htk
   have HRD := Aside0.mk hrd
   obtain ⟨out, hout⟩ : ∃ out, out = sortI (l0.take j) := ⟨_, rfl⟩
   have ho := HO.out
   rw [← hout] at ho
   have hol : out.length = j := by rw [hout, sortI_len, List.length_take]; omega
   have HOL := Aside0.mk hol
   have HOUT := Aside0.mk hout
   obtain ⟨Ao, co, rfl⟩ := Kd.R_slice ho
   have HO := Aside0.mk ho
   have Hlt := Aside0.mk hlt
   have Hjv := Aside0.mk hjv
   have hol63 : out.length ≤ 9223372036854775807 := by omega
   clear ho hout hol htk hx hrd hlt hjv hj
   go_wp2
   go_loopw [5] (fun v5 wq => ∃ (a : Nat) (av : Int), a ≤ out.length ∧ av = (a : Int) ∧ v5 = .int .i64 av ∧ Aside0 (atE out x out.length = atE out x a) ∧ Aside0 (Kd.R (Kd.int .i64) 3 wq w.heap.size (fun _ => True) (.slice Ao out.length co) out) ∧ Aside0 (Below w.heap.size w wq)) (fun v5 _ => (intOf v5).toNat)
   case atStart => exact ⟨out.length, _, Nat.le_refl _, rfl, rfl, ⟨rfl⟩, HO, HB⟩
   case round =>
    clear HO HB
    obtain ⟨a, av, ha, hav, rfl, HA, HO, HB⟩ := hrel
    obtain ⟨ad, ead, hcx⟩ := Kd.at_int (Kd.C_below HR0.out HB.out) jv p0 q0
    cases ead
    rw [HRD.out] at hcx
    have h63 : a ≤ 9223372036854775807 := by omega
    by_cases hgo : 0 < a ∧ x < rd out (av - 1)
    case pos =>
     obtain ⟨h0, h1⟩ := hgo
     obtain ⟨ao, eao, hco⟩ := Kd.at_int (Kd.R_reads' HO.out).2.2 (av - 1) (by omega) (by omega)
     cases eao
     have HA' := Aside0.mk (HA.out.trans (atE_go out x a h0 (by rw [← hav]; exact h1)))
     generalize rd out (av - 1) = y at hco h1
     rw [show (av - 1).toNat = av.toNat - 1 by omega] at hco
     have d0 : decide (0 < av) = true := by simp; omega
     have d1 : decide (x < y) = true := by simpa using h1
     have b0 : 0 ≤ av - 1 := by omega
     have b1 : 1 ≤ av := by omega
     have b2 : av - 1 < (out.length : Int) := by omega
     have hw1 : IntKind.i64.wrap (av - 1) = av - 1 := by rw [IntKind.wrap_i64]; omega
     have Hav := Aside0.mk hav
     have Ha := Aside0.mk ha
     have H0 := Aside0.mk h0
     clear hav ha h1 HA
     go_wp2
     go_quiet (fail)
     clear hw1
     go_wp2
     refine ⟨?rel, ?measure⟩
     case measure =>
      show (av - 1).toNat < av.toNat
      have := Hav.out
      have := H0.out
      omega
     case rel => exact ⟨a - 1, av - 1, by have := Ha.out; omega, by have := Hav.out; have := H0.out; omega, rfl, HA', ⟨Kd.R_drewN HO.out nq⟩, ⟨pw_below_drewN HB.out nq⟩⟩
    case neg =>
     have hst := atE_stop out x a (by rw [← hav]; exact hgo)
     have HA' := Aside0.mk (HA.out.trans hst)
     have Hav := Aside0.mk hav
     have Ha := Aside0.mk ha
     by_cases h0 : 0 < a
     case pos =>
      obtain ⟨ao, eao, hco⟩ := Kd.at_int (Kd.R_reads' HO.out).2.2 (av - 1) (by omega) (by omega)
      cases eao
      have h1 : ¬ x < rd out (av - 1) := fun h => hgo ⟨h0, h⟩
      generalize rd out (av - 1) = y at hco h1
      rw [show (av - 1).toNat = av.toNat - 1 by omega] at hco
      have d0 : decide (0 < av) = true := by simp; omega
      have d1 : decide (x < y) = false := by simpa using h1
      have b0 : 0 ≤ av - 1 := by omega
      have b1 : 1 ≤ av := by omega
      have b2 : av - 1 < (out.length : Int) := by omega
      have hw1 : IntKind.i64.wrap (av - 1) = av - 1 := by rw [IntKind.wrap_i64]; omega
      clear hav ha h1 HA hgo hst h0
      go_wp2
      go_quiet (fail)
      clear hw1 d0 d1 b0 b1 b2 hco hcx
      have n0_ := Aside0.mk (Kd.R_drewN HO.out nq)
      have n1_ := Aside0.mk (pw_below_drewN HB.out nq)
      clear HO HB
      have HO := n0_
      have HB := n1_
      clear n0_ n1_
      generalize wr.drewN nq = wq at HO HB ⊢
      go_wp2_with (first
       | ((with_reducible refine gate_builtin (b := .append) (xs := #[.tmp 30, .tmp 31]) rfl ?_); at_builtin; refine Kd.R_append (Kd.int .i64) (w0 := w) w.heap.size rfl (.tmp 30) (.tmp 31) 23 3 (.int .i64 0) 8 rfl Try.underlying23 info3 rfl (by decide) (by omega) _ out 0 [.int .i64 0] (fun _ => True) (fun _ => False) rfl rfl ?aP (fun _ hk => hk.elim) (fun _ _ => trivial) ?aO ?aB ?aS ?aL ?_; (case aP => rfl); (case aB => exact HB.out); (case aO => exact HO.out); (case aS => exact below_size HB.out); (case aL => have := HOL.out; have := Hlt.out; have := HL.out; omega); intro v1 w1 ho hb hg hat_; have HO1 := Aside0.mk ho; have HB1 := Aside0.mk hb; clear HO HB ho hb hg hat_))
      obtain rfl : av = (a : Int) := Hav.out
      clear Hav
      obtain ⟨m, hm⟩ : ∃ m, m = out.length + 1 := ⟨_, rfl⟩
      obtain ⟨inner, ho, hir⟩ := raw_R free_intK HO1.out
      have ein := ints_inner hir
      have eol : (out ++ [(0 : Int)]).length = m := by rw [hm]; simp
      rw [eol] at ho
      rcases ho.2 with ⟨rfl, hn0⟩ | ⟨g, cap, cur, rfl, hbg, hg, hnc, hcm, hcs, hct⟩
      ·omega
      change cur.size = cap * 1 at hcs
      change cur.toList.take (m * 1) = inner at hct
      rw [Nat.mul_one] at hcs hct
      rw [ein, hm] at hct
      have ha := Ha.out
      obtain ⟨hL1, hL2⟩ := shift_list cur.toList out x a ha hct (by have := Array.length_toList (xs := cur); omega)
      obtain ⟨cur1, hcur1⟩ : ∃ cur1 : Array Value, cur1 = (cur.toList.take (a + 1) ++ (out.drop a).map (fun x => Value.int .i64 x) ++ cur.toList.drop (a + 1 + (out.drop a).length)).toArray := ⟨_, rfl⟩
      have e1 : cur1.toList = cur.toList.take (a + 1) ++ (out.drop a).map (fun x => Value.int .i64 x) ++ cur.toList.drop (a + 1 + (out.drop a).length) := by rw [hcur1]
      rw [← e1] at hL1 hL2
      have hs1 : cur1.size = cap := by rw [← Array.length_toList, hL1, Array.length_toList, hcs]
      have hsz : (Try.prog.info? 3).map (·.size) = some 1 := by kernel_rfl
      have hdl : ((out.drop a).map (fun x => Value.int .i64 x)).length = m - (a + 1) := by rw [List.length_map, List.length_drop]; omega
      have hsrc : ∀ k v, ((out.drop a).map (fun x => Value.int .i64 x))[k]? = some v → w1.drew.cell? (Addr.add ⟨g, a, none⟩ k) = some v := fun k v hk => by
       rw [Addr.add_lit]
       have hkl := (List.getElem?_eq_some_iff.1 hk).1
       rw [hdl] at hkl
       rw [List.map_drop, List.getElem?_drop, ← List.getElem?_append_left (l₂ := [Value.int .i64 0]) (by rw [List.length_map]; omega)] at hk
       rw [show (out.map (fun x => Value.int .i64 x) ++ [Value.int .i64 0]) = (out ++ [0]).map (fun x => Value.int .i64 x) by rw [List.map_append]; rfl, ← hct, List.getElem?_take_of_lt (by omega), Array.getElem?_toList] at hk
       exact (blk_cell (w := w1.drew) hg (a + k)).trans hk
      have h1o : ∀ v ∈ (out.drop a).map (fun x => Value.int .i64 x), v.oneCell' = true := fun v hv => by obtain ⟨y, _, rfl⟩ := List.mem_map.1 hv; rfl
      obtain ⟨D, hD, hcp⟩ : ∃ D : Addr, (if cap = a + 1 then some (⟨g, 0, none⟩ : Addr) else some ⟨g, a + 1, none⟩) = some D ∧ Aside0 (∀ ty dc sc, (Builtin.copy_ #[23, 23] ty #[.slice (some D) (m - (a + 1)) dc, .slice (some ⟨g, a, none⟩) (m - a) sc]).run Try.prog w1.drew = .ok (goInt (Nat.min (m - a) (m - (a + 1)))) (w1.drew.setRow g cur1)) := by
       by_cases hc : cap = a + 1
       ·refine ⟨⟨g, 0, none⟩, by rw [if_pos hc], ⟨fun ty dc sc => ?_⟩⟩
        have hn0 : (out.drop a).map (fun x => Value.int .i64 x) = [] := List.eq_nil_of_length_eq_zero (by rw [hdl]; omega)
        have h := run_copy_rowS (P := Try.prog) w1.drew 23 23 ty 3 1 g 0 (m - (a + 1)) dc ⟨g, a, none⟩ (m - a) sc cur 3 [] Try.underlying23 hsz hg (by show 0 = min _ _ * 1; omega) (fun k v hk => by simp at hk) (by simp) (fun v hv => by cases hv)
        rw [h]
        congr 2
        rw [hcur1, hn0]
        have : (out.drop a).length = 0 := by rw [List.length_drop]; omega
        simp [this]
       ·refine ⟨⟨g, a + 1, none⟩, by rw [if_neg hc], ⟨fun ty dc sc => ?_⟩⟩
        have h := run_copy_rowS (P := Try.prog) w1.drew 23 23 ty 3 1 g (a + 1) (m - (a + 1)) dc ⟨g, a, none⟩ (m - a) sc cur 3 ((out.drop a).map (fun x => Value.int .i64 x)) Try.underlying23 hsz hg (by rw [hdl]; show _ = min _ _ * 1; omega) hsrc (by rw [hdl, hcs]; omega) h1o
        rw [h, hcur1, List.length_map]
      obtain ⟨W1, hW1⟩ : ∃ W1, W1 = w1.drew.setRow g cur1 := ⟨_, rfl⟩
      rw [← hW1] at hcp
      have hg1 : W1.heap[g]? = some (.cells cur1 3 (0, 0)) := by rw [hW1]; exact setRow_heap w1.drew g cur cur1 3 (0, 0) hg
      have hB1 : Below w.heap.size w W1 := by rw [hW1]; exact Below.grown HB1.out (grown_setRowD w1 g cur1) (below_size HB1.out) (fun k hk => by cases hk; exact hbg)
      obtain ⟨ad, ead, hcx⟩ := Kd.at_int (Kd.C_below HR0.out hB1) jv p0 q0
      cases ead
      rw [HRD.out] at hcx
      have hcg : ∃ u, W1.cell? ⟨g, a, none⟩ = some u := ⟨cur1[a]'(by omega), by rw [blk_cell hg1, Array.getElem?_eq_getElem]⟩
      obtain ⟨ug, hcg⟩ := hcg
      have hfg := blk_frozen hg1 a
      have HX1 := Aside0.mk (And.intro hg1 (And.intro hB1 (And.intro hs1 (And.intro hL2 (And.intro hbg (And.intro hnc hcm))))))
      have Hm := Aside0.mk hm
      have HCP := hcp.out
      have hw1 : IntKind.i64.wrap ((a : Int) + 1) = (a : Int) + 1 := by have := HOL.out; have := Hlt.out; rw [IntKind.wrap_i64]; omega
      have hb1 : (0 : Int) ≤ (a : Int) + 1 := by omega
      have htn : ((a : Int) + 1).toNat = a + 1 := by omega
      have hb2 : (a : Int) + 1 ≤ (m : Int) := by omega
      have hb3 : (a : Int) ≤ (m : Int) := by omega
      have hb4 : ¬ (cap = a) := by omega
      have hb5 : a < m := by omega
      have hcap63 : cap ≤ 9223372036854775807 := by unfold maxLen at hcm; omega
      clear hcp hsrc h1o hdl hsz hg1 hB1 hs1 hL1 hL2 hbg hnc hcm hm hcs hct ein hir ho hg hW1 e1 hcur1 HO1 HB1 ha eol
      go_wp2
      go_region_law ((refine step_copy_runI (v' := goInt (Nat.min (m - a) (m - (a + 1)))) (w' := W1) rfl (.tmp 36) (.tmp 39) 23 23 rfl (.slice (some D) (m - (a + 1)) (cap - (a + 1))) (.slice (some ⟨g, a, none⟩) (m - a) (cap - a)) ?h1 ?h2 ?h3 ?_); (case h3 => exact HCP _ _ _); (case h1 => (simp [Act.eval, Act.put])); (case h2 => (simp [Act.eval, Act.put])))
      go_wp2
      obtain ⟨hg1, hB1, hs1, hL2, hbg, hnc, hcm⟩ := HX1.out
      have hins : sortI (l0.take (j + 1)) = out.take a ++ x :: out.drop a := by rw [HX.out, sortI_snoc, ← HOUT.out]; unfold insI; rw [HA'.out]
      have hil : (out.take a ++ x :: out.drop a).length = m := by rw [List.length_append, List.length_cons, List.length_take, List.length_drop, Hm.out]; have := Ha.out; omega
      refine ⟨⟨j + 1, jv + 1, by have := Hlt.out; omega, by have := Hjv.out; omega, rfl, ⟨?_⟩, ⟨below_set hB1 hbg⟩⟩, ?_⟩
      ·rw [hins]
       refine R_raw (inner := (out.take a ++ x :: out.drop a).map (fun x => Value.int .i64 x)) ?_ (inner_ints _) (fun _ _ => trivial)
       rw [hil]
       exact ⟨by rw [List.length_map, hil]; exact (Nat.mul_one _).symm, .inr ⟨g, cap, cur1.setIfInBounds a (.int .i64 x), rfl, hbg, blk_put hg1 a _ rfl, hnc, hcm, by rw [Array.size_setIfInBounds, hs1]; exact (Nat.mul_one _).symm, by
        rw [Array.toList_setIfInBounds]
        show (cur1.toList.set a _).take (m * 1) = _
        rw [Nat.mul_one, Hm.out]; exact hL2⟩⟩
      ·show l0.length - (jv + 1).toNat < l0.length - jv.toNat
       have := Hjv.out
       have := Hlt.out
       omega
     case neg =>
      have d0 : decide (0 < av) = false := by simp; omega
      clear hav ha HA hgo hst h0
      go_wp2
      go_quiet (fail)
      clear d0 hcx
      have n0_ := Aside0.mk (Kd.R_drewN HO.out nq)
      have n1_ := Aside0.mk (pw_below_drewN HB.out nq)
      clear HO HB
      have HO := n0_
      have HB := n1_
      clear n0_ n1_
      generalize wr.drewN nq = wq at HO HB ⊢
      go_wp2_with (first
       | ((with_reducible refine gate_builtin (b := .append) (xs := #[.tmp 30, .tmp 31]) rfl ?_); at_builtin; refine Kd.R_append (Kd.int .i64) (w0 := w) w.heap.size rfl (.tmp 30) (.tmp 31) 23 3 (.int .i64 0) 8 rfl Try.underlying23 info3 rfl (by decide) (by omega) _ out 0 [.int .i64 0] (fun _ => True) (fun _ => False) rfl rfl ?aP (fun _ hk => hk.elim) (fun _ _ => trivial) ?aO ?aB ?aS ?aL ?_; (case aP => rfl); (case aB => exact HB.out); (case aO => exact HO.out); (case aS => exact below_size HB.out); (case aL => have := HOL.out; have := Hlt.out; have := HL.out; omega); intro v1 w1 ho hb hg hat_; have HO1 := Aside0.mk ho; have HB1 := Aside0.mk hb; clear HO HB ho hb hg hat_))
      obtain rfl : av = (a : Int) := Hav.out
      clear Hav
      obtain ⟨m, hm⟩ : ∃ m, m = out.length + 1 := ⟨_, rfl⟩
      obtain ⟨inner, ho, hir⟩ := raw_R free_intK HO1.out
      have ein := ints_inner hir
      have eol : (out ++ [(0 : Int)]).length = m := by rw [hm]; simp
      rw [eol] at ho
      rcases ho.2 with ⟨rfl, hn0⟩ | ⟨g, cap, cur, rfl, hbg, hg, hnc, hcm, hcs, hct⟩
      ·omega
      change cur.size = cap * 1 at hcs
      change cur.toList.take (m * 1) = inner at hct
      rw [Nat.mul_one] at hcs hct
      rw [ein, hm] at hct
      have ha := Ha.out
      obtain ⟨hL1, hL2⟩ := shift_list cur.toList out x a ha hct (by have := Array.length_toList (xs := cur); omega)
      obtain ⟨cur1, hcur1⟩ : ∃ cur1 : Array Value, cur1 = (cur.toList.take (a + 1) ++ (out.drop a).map (fun x => Value.int .i64 x) ++ cur.toList.drop (a + 1 + (out.drop a).length)).toArray := ⟨_, rfl⟩
      have e1 : cur1.toList = cur.toList.take (a + 1) ++ (out.drop a).map (fun x => Value.int .i64 x) ++ cur.toList.drop (a + 1 + (out.drop a).length) := by rw [hcur1]
      rw [← e1] at hL1 hL2
      have hs1 : cur1.size = cap := by rw [← Array.length_toList, hL1, Array.length_toList, hcs]
      have hsz : (Try.prog.info? 3).map (·.size) = some 1 := by kernel_rfl
      have hdl : ((out.drop a).map (fun x => Value.int .i64 x)).length = m - (a + 1) := by rw [List.length_map, List.length_drop]; omega
      have hsrc : ∀ k v, ((out.drop a).map (fun x => Value.int .i64 x))[k]? = some v → w1.drew.cell? (Addr.add ⟨g, a, none⟩ k) = some v := fun k v hk => by
       rw [Addr.add_lit]
       have hkl := (List.getElem?_eq_some_iff.1 hk).1
       rw [hdl] at hkl
       rw [List.map_drop, List.getElem?_drop, ← List.getElem?_append_left (l₂ := [Value.int .i64 0]) (by rw [List.length_map]; omega)] at hk
       rw [show (out.map (fun x => Value.int .i64 x) ++ [Value.int .i64 0]) = (out ++ [0]).map (fun x => Value.int .i64 x) by rw [List.map_append]; rfl, ← hct, List.getElem?_take_of_lt (by omega), Array.getElem?_toList] at hk
       exact (blk_cell (w := w1.drew) hg (a + k)).trans hk
      have h1o : ∀ v ∈ (out.drop a).map (fun x => Value.int .i64 x), v.oneCell' = true := fun v hv => by obtain ⟨y, _, rfl⟩ := List.mem_map.1 hv; rfl
      obtain ⟨D, hD, hcp⟩ : ∃ D : Addr, (if cap = a + 1 then some (⟨g, 0, none⟩ : Addr) else some ⟨g, a + 1, none⟩) = some D ∧ Aside0 (∀ ty dc sc, (Builtin.copy_ #[23, 23] ty #[.slice (some D) (m - (a + 1)) dc, .slice (some ⟨g, a, none⟩) (m - a) sc]).run Try.prog w1.drew = .ok (goInt (Nat.min (m - a) (m - (a + 1)))) (w1.drew.setRow g cur1)) := by
       by_cases hc : cap = a + 1
       ·refine ⟨⟨g, 0, none⟩, by rw [if_pos hc], ⟨fun ty dc sc => ?_⟩⟩
        have hn0 : (out.drop a).map (fun x => Value.int .i64 x) = [] := List.eq_nil_of_length_eq_zero (by rw [hdl]; omega)
        have h := run_copy_rowS (P := Try.prog) w1.drew 23 23 ty 3 1 g 0 (m - (a + 1)) dc ⟨g, a, none⟩ (m - a) sc cur 3 [] Try.underlying23 hsz hg (by show 0 = min _ _ * 1; omega) (fun k v hk => by simp at hk) (by simp) (fun v hv => by cases hv)
        rw [h]
        congr 2
        rw [hcur1, hn0]
        have : (out.drop a).length = 0 := by rw [List.length_drop]; omega
        simp [this]
       ·refine ⟨⟨g, a + 1, none⟩, by rw [if_neg hc], ⟨fun ty dc sc => ?_⟩⟩
        have h := run_copy_rowS (P := Try.prog) w1.drew 23 23 ty 3 1 g (a + 1) (m - (a + 1)) dc ⟨g, a, none⟩ (m - a) sc cur 3 ((out.drop a).map (fun x => Value.int .i64 x)) Try.underlying23 hsz hg (by rw [hdl]; show _ = min _ _ * 1; omega) hsrc (by rw [hdl, hcs]; omega) h1o
        rw [h, hcur1, List.length_map]
      obtain ⟨W1, hW1⟩ : ∃ W1, W1 = w1.drew.setRow g cur1 := ⟨_, rfl⟩
      rw [← hW1] at hcp
      have hg1 : W1.heap[g]? = some (.cells cur1 3 (0, 0)) := by rw [hW1]; exact setRow_heap w1.drew g cur cur1 3 (0, 0) hg
      have hB1 : Below w.heap.size w W1 := by rw [hW1]; exact Below.grown HB1.out (grown_setRowD w1 g cur1) (below_size HB1.out) (fun k hk => by cases hk; exact hbg)
      obtain ⟨ad, ead, hcx⟩ := Kd.at_int (Kd.C_below HR0.out hB1) jv p0 q0
      cases ead
      rw [HRD.out] at hcx
      have hcg : ∃ u, W1.cell? ⟨g, a, none⟩ = some u := ⟨cur1[a]'(by omega), by rw [blk_cell hg1, Array.getElem?_eq_getElem]⟩
      obtain ⟨ug, hcg⟩ := hcg
      have hfg := blk_frozen hg1 a
      have HX1 := Aside0.mk (And.intro hg1 (And.intro hB1 (And.intro hs1 (And.intro hL2 (And.intro hbg (And.intro hnc hcm))))))
      have Hm := Aside0.mk hm
      have HCP := hcp.out
      have hw1 : IntKind.i64.wrap ((a : Int) + 1) = (a : Int) + 1 := by have := HOL.out; have := Hlt.out; rw [IntKind.wrap_i64]; omega
      have hb1 : (0 : Int) ≤ (a : Int) + 1 := by omega
      have htn : ((a : Int) + 1).toNat = a + 1 := by omega
      have hb2 : (a : Int) + 1 ≤ (m : Int) := by omega
      have hb3 : (a : Int) ≤ (m : Int) := by omega
      have hb4 : ¬ (cap = a) := by omega
      have hb5 : a < m := by omega
      have hcap63 : cap ≤ 9223372036854775807 := by unfold maxLen at hcm; omega
      clear hcp hsrc h1o hdl hsz hg1 hB1 hs1 hL1 hL2 hbg hnc hcm hm hcs hct ein hir ho hg hW1 e1 hcur1 HO1 HB1 ha eol
      go_wp2
      go_region_law ((refine step_copy_runI (v' := goInt (Nat.min (m - a) (m - (a + 1)))) (w' := W1) rfl (.tmp 36) (.tmp 39) 23 23 rfl (.slice (some D) (m - (a + 1)) (cap - (a + 1))) (.slice (some ⟨g, a, none⟩) (m - a) (cap - a)) ?h1 ?h2 ?h3 ?_); (case h3 => exact HCP _ _ _); (case h1 => (simp [Act.eval, Act.put])); (case h2 => (simp [Act.eval, Act.put])))
      go_wp2
      obtain ⟨hg1, hB1, hs1, hL2, hbg, hnc, hcm⟩ := HX1.out
      have hins : sortI (l0.take (j + 1)) = out.take a ++ x :: out.drop a := by rw [HX.out, sortI_snoc, ← HOUT.out]; unfold insI; rw [HA'.out]
      have hil : (out.take a ++ x :: out.drop a).length = m := by rw [List.length_append, List.length_cons, List.length_take, List.length_drop, Hm.out]; have := Ha.out; omega
      refine ⟨⟨j + 1, jv + 1, by have := Hlt.out; omega, by have := Hjv.out; omega, rfl, ⟨?_⟩, ⟨below_set hB1 hbg⟩⟩, ?_⟩
      ·rw [hins]
       refine R_raw (inner := (out.take a ++ x :: out.drop a).map (fun x => Value.int .i64 x)) ?_ (inner_ints _) (fun _ _ => trivial)
       rw [hil]
       exact ⟨by rw [List.length_map, hil]; exact (Nat.mul_one _).symm, .inr ⟨g, cap, cur1.setIfInBounds a (.int .i64 x), rfl, hbg, blk_put hg1 a _ rfl, hnc, hcm, by rw [Array.size_setIfInBounds, hs1]; exact (Nat.mul_one _).symm, by
        rw [Array.toList_setIfInBounds]
        show (cur1.toList.set a _).take (m * 1) = _
        rw [Nat.mul_one, Hm.out]; exact hL2⟩⟩
      ·show l0.length - (jv + 1).toNat < l0.length - jv.toNat
       have := Hjv.out
       have := Hlt.out
       omega

end Go.Proofs.Ytpiamehededilaa.P
