-- Written by this project's own program (wip/tools/hp.py), driving the kit's print; hand texts among it. Not trusted: Lean checks it.
-- half the indentation
import Derived.Test.YtpiamehededilaaP0
import Derived.Test.YtpiamehededilaaP3
import Derived.Test.YtpiamehededilaaP4
import Derived.Test.YtpiamehededilaaP6
import Derived.Test.YtpiamehededilaaP7
import Derived.Test.YtpiamehededilaaP8
namespace Go.Proofs.Ytpiamehededilaa.P
open Go.RowKit Go.Proofs.YtpiamehededilaaW.PrintWords Go.Proofs.YtpiamehededilaaW.PrintLast Go.Proofs.YtpiamehededilaaW.PrintMore
attribute [local go_sem] max2_int min2_int max_two min_two max_three min_three max_four min_four   -- for this text's walks alone
set_option linter.unusedVariables false
set_option linter.unusedSimpArgs false

/-! ### HAND reach_Link -/
/-! #### sets of numbers: a map of empty elements, told by what is in it -/
def keyI (x : Int) : Lit := .int .i64 x
def wfI (x : Int) : Prop := (Lit.int .i64 x).wf = true
/-- Block b is a set of at most n numbers: just those of which M holds. -/
def SetM (w : World) (b n : Nat) (M : Int → Prop) : Prop := ∃ D : DataW Unit, w.ownsMap Try.prog 3 (unitElem (H := Unit)) b n D ∧ ∀ x, Maps.has D (.int .i64 x) = true ↔ M x
theorem zero_unit (w : World) : (zeroValue 78).run Try.prog w = .ok (.agg #[]) w := by kernel_rfl
open Go.Maps in
theorem keyed_int : Keyed Try.prog 3 := int_keyed Try.underlying3
theorem key_int {x : Int} (h : wfI x) : keyOf Try.prog 3 (.int .i64 x) = some (.int .i64 x) := Maps.keyOf_int_mk Try.underlying3 h
section
variable {w w' : World} {b n : Nat} {M : Int → Prop}
theorem SetM_lt (h : SetM w b n M) : b < w.heap.size := by obtain ⟨D, h, _⟩ := h; exact h.lt
theorem SetM_same (h : SetM w b n M) (hb : w'.heap[b]? = w.heap[b]?) : SetM w' b n M := by
 obtain ⟨D, ⟨es, clock, h1, h2⟩, h3⟩ := h
 exact ⟨D, ⟨es, clock, hb.trans h1, h2⟩, h3⟩
theorem SetM_kept (h : SetM w b n M) {S : Nat → Prop} (hk : Kept w w' S) (hb : ¬ S b) : SetM w' b n M := SetM_same h (hk.2 b (SetM_lt h) hb)
theorem SetM_below (h : SetM w b n M) (hb : Below w.heap.size w w') : SetM w' b n M := SetM_same h (hb.block b (SetM_lt h))
theorem SetM_grown (h : SetM w b n M) {row : Option Nat} (hg : w.grownBy w' row) (hb : some b ≠ row) : SetM w' b n M := SetM_same h (hg.block b (SetM_lt h) hb)
theorem SetM_new (w : World) : SetM (w.alloc (.map #[] 0)) w.heap.size 0 (fun _ => False) :=
 ⟨.map [], World.ownsMap_made _ _ _ _, fun x => by constructor <;> intro h <;> cases h⟩
theorem SetM_mono (h : SetM w b n M) {m : Nat} (hm : n ≤ m) : SetM w b m M := by obtain ⟨D, h, h2⟩ := h; exact ⟨D, h.mono hm, h2⟩
theorem SetM_iff (h : SetM w b n M) {M' : Int → Prop} (hm : ∀ x, M x ↔ M' x) : SetM w b n M' := by obtain ⟨D, h, h2⟩ := h; exact ⟨D, h, fun x => (h2 x).trans (hm x)⟩
theorem SetM_ne (h : SetM w b n M) {g : Nat} {cs : Array Value} {t : TypeId} {f : Nat × Nat} (hg : w.heap[g]? = some (.cells cs t f)) : b ≠ g := by
 rintro rfl
 obtain ⟨D, ⟨es, clock, h1, _⟩, _⟩ := h
 rw [h1] at hg
 cases hg
theorem has_put_iff {D : DataW Unit} (hD : Maps.IsMap D) {x : Int} (hx : wfI x) (d : DataW Unit) (y : Int) : Maps.has (D.put (.int .i64 x) d) (.int .i64 y) = true ↔ (Maps.has D (.int .i64 y) = true ∨ y = x) := by
 by_cases e : y = x
 ·subst e
  rw [Maps.has_put_same hD (keyed_int.key (key_int hx))]
  simp
 ·rw [Maps.has_put_other (by intro h; injection h with _ h; exact e h)]
  simp [e]
end
set_option maxRecDepth 100000 in
/-- s.has(k). -/
theorem has_calls (b n : Nat) (M : Int → Prop) (x : Int) (r : Bool) (w : World) (hs : SetM w b n M) (hx : wfI x) (hr : r = true ↔ M x) :
  Calls Try.prog 32 #[.map (some b), .int .i64 x] w fun e w' => e = .returned (.bool r) ∧ Below w.heap.size w w' := by
 obtain ⟨D, hown, hM⟩ := hs
 have hkey := key_int hx
 have hhas : Maps.has D (.int .i64 x) = r := by
  rw [Bool.eq_iff_iff, hM, hr]
 clear hM hr hx
 go_enter Try.func32, Try.ntmps32
 go_wp2_with (first | (at_lookup; refine wpList_lookup_own_unit _ rfl _ _ 57 rfl 3 78 keyed_int Try.underlying57 (zero_unit _) b n D rfl hown _ _ rfl hkey ?_; rw [hhas]))
 go_ret
 exact ⟨rfl, (Below.refl _ _).alloc (Nat.le_refl _) _⟩
set_option maxRecDepth 100000 in
/-- s.add(k). -/
theorem add_calls (b n : Nat) (M : Int → Prop) (x : Int) (w : World) (hs : SetM w b n M) (hx : wfI x) (hn : n < 140737488355328) :
  Calls Try.prog 34 #[.map (some b), .int .i64 x] w fun e w' => e = .returned (.tuple #[]) ∧ SetM w' b (n + 1) (fun y => M y ∨ y = x) ∧ w.grownBy w' (some b) := by
 obtain ⟨D, hown, hM⟩ := hs
 have hkey := key_int hx
 have HM := Aside0.mk hM
 have HX := Aside0.mk hx
 have hIM := Aside0.mk hown.isMap
 clear hM hx
 go_enter Try.func34, Try.ntmps34
 go_wp2_with (first | (at_mapUpdate; refine wpList_mapUpdate_own _ rfl _ _ _ 57 rfl 3 78 keyed_int Try.underlying57 _ b n D rfl hown (by unfold maxLen; omega) _ _ _ rfl rfl hkey _ [] unitElem_mk ?_; intro w1 hown1 hgrow1))
 go_end0
 exact ⟨rfl, ⟨_, hown1, fun y => by rw [has_put_iff hIM.out HX.out, HM.out]⟩, hgrow1⟩
set_option maxRecDepth 100000 in
/-- of(l). -/
theorem of_calls (A0 : Option Addr) (c0 : Nat) (l : List Int) (w : World) (hr : Kd.C (Kd.int .i64) w A0 l.length l) (hl : l.length ≤ 1000000000) (hw : ∀ x ∈ l, wfI x) :
  Calls Try.prog 30 #[.slice A0 l.length c0] w fun e w' => e = .returned (.map (some w.heap.size)) ∧ SetM w' w.heap.size l.length (fun y => y ∈ l) ∧ Below w.heap.size w w' := by
 have HR0 := Aside0.mk hr
 have HL := Aside0.mk hl
 have HW := Aside0.mk hw
 have hmm := @run_makeMap Try.prog
 have huM := Try.underlying57
 have hl63 : l.length ≤ 9223372036854775807 := by omega
 clear hr hl hw
 go_enter Try.func30, Try.ntmps30
 go_wp2
 go_loopw [9] (fun v9 wr => ∃ (j : Nat) (jv : Int), j ≤ l.length ∧ jv = (j : Int) ∧ v9 = .int .i64 jv ∧ Aside0 (SetM wr w.heap.size j (fun y => y ∈ l.take j)) ∧ Aside0 (Below w.heap.size w wr)) (fun v9 _ => l.length - (intOf v9).toNat)
 case atStart => exact ⟨0, 0, by omega, rfl, rfl, ⟨SetM_iff (SetM_new w) (fun x => by simp)⟩, ⟨(Below.refl _ _).alloc (Nat.le_refl _) _⟩⟩
 case round =>
  obtain ⟨j, jv, hj, hjv, rfl, HM, HB⟩ := hrel
  by_cases hlt : j < l.length
  case neg =>
   have hnl : ¬ (jv < (l.length : Int)) := by omega
   have hM := HM.out
   rw [List.take_of_length_le (by omega)] at hM
   have hM := SetM_mono hM hj
   have HM := Aside0.mk hM
   clear hM
   go_wp2
   go_ret
   exact ⟨rfl, HM.out, HB.out⟩
  case pos =>
   have p0 : (0 : Int) ≤ jv := by omega
   have q0 : jv < (l.length : Int) := by omega
   obtain ⟨ad, ead, hx⟩ := Kd.at_int (Kd.C_below HR0.out HB.out) jv p0 q0
   cases ead
   have hrd : rd l jv = l[j] := by rw [hjv]; simp [rd, List.getD_eq_getElem?_getD, hlt]
   obtain ⟨x, hxe⟩ : ∃ x, x = l[j] := ⟨_, rfl⟩
   rw [hrd, ← hxe] at hx
   have htk : l.take (j + 1) = l.take j ++ [x] := by rw [List.take_succ_eq_append_getElem hlt, hxe]
   have hwx : wfI x := by rw [hxe]; exact HW.out _ (List.getElem_mem hlt)
   have HTK := Aside0.mk htk
   have HWX := Aside0.mk hwx
   have Hjv := Aside0.mk hjv
   have Hlt := Aside0.mk hlt
   clear hrd hxe htk hwx hjv hj hlt
   go_wp2_with (first | (go_at_call 34; refine (add_calls w.heap.size j _ x _ HM.out HWX.out (by have := Hlt.out; have := HL.out; omega)).mono ?_; rintro e w1 ⟨rfl, hM1, hg1⟩; have HM1 := Aside0.mk hM1; have HB1 := Aside0.mk (Below.grown HB.out hg1 (below_size HB.out) (fun k hk => by cases hk; exact Nat.le_refl _)); clear hM1 hg1))
   refine ⟨⟨j + 1, jv + 1, by have := Hlt.out; omega, by have := Hjv.out; omega, rfl, ⟨SetM_iff HM1.out (fun y => by rw [HTK.out]; simp)⟩, HB1⟩, ?_⟩
   show l.length - (jv + 1).toNat < l.length - jv.toNat
   have := Hjv.out
   have := Hlt.out
   omega
set_option maxRecDepth 100000 in
/-- reached(live, n). -/
theorem reached_calls (b n : Nat) (M : Int → Prop) (x : Int) (r : Bool) (w : World) (hs : SetM w b n M) (hx : wfI x) (hr : r = true ↔ (x = -1 ∨ M x)) :
  Calls Try.prog 31 #[.map (some b), .int .i64 x] w fun e w' => e = .returned (.bool r) ∧ Below w.heap.size w w' := by
 have HS := Aside0.mk hs
 have HX := Aside0.mk hx
 have HR := Aside0.mk hr
 clear hs hx hr
 by_cases h1 : x = -1
 case pos =>
  have hrt : r = true := HR.out.2 (.inl h1)
  subst hrt
  subst h1
  go_enter Try.func31, Try.ntmps31
  go_wp2
  go_ret
  exact ⟨rfl, Below.refl _ _⟩
 case neg =>
  have h2 : r = true ↔ M x := by rw [HR.out]; simp [h1]
  have HR2 := Aside0.mk h2
  have hd : (x == -1) = false := by simpa using h1
  clear h2
  go_enter Try.func31, Try.ntmps31
  go_wp2_with (first | (go_at_call 32; refine (has_calls b n M x r _ HS.out HX.out HR2.out).mono ?_; rintro e w1 ⟨rfl, hb⟩; have HB := Aside0.mk hb; clear hb))
  go_ret
  exact ⟨rfl, HB.out⟩
theorem SetM_wf {w : World} {b n : Nat} {M : Int → Prop} (h : SetM w b n M) {x : Int} (hx : M x) : wfI x := by
 obtain ⟨D, hown, hM⟩ := h
 obtain ⟨es, hD, hko⟩ := hown.keysOf
 have hh := (hM x).2 hx
 rw [hD, Maps.has_eq, List.any_eq_true] at hh
 obtain ⟨p, hp, hs⟩ := hh
 obtain ⟨v, hv⟩ := hko p hp
 obtain ⟨y, _, hy, hl⟩ := Maps.keyOf_i64 Try.underlying3 hv
 rw [hy] at hs
 have hyx : y = x := by simpa [Lit.sameKey] using hs
 exact hyx ▸ hl
open Go.Maps Go.Sort Go.Shelf in
/-- slices.Sort's two contracts at this dump, at the fence that asks nothing. -/
theorem sorts_int (m : Nat) : AnyZI.SortsIn Try.prog Try.sortedA_ren Fence.wide m :=
 ⟨fun blk off cap ss W hH hblk hsz => callsIn_wide.2 (AnyM.slices_Sort_int Try.sortA blk off cap ss W hH hblk hsz),
  fun p cap W => callsIn_wide.2 (AnyM.slices_Sort_int_none Try.sortA p cap W)⟩
open Go.Maps Go.Sort Go.Shelf in
set_option maxHeartbeats 1000000 in
/-- slices.Sorted(maps.Keys(s)). -/
theorem keys_calls {H : Type} (b nn : Nat) (D0 : DataW H) (R : Value → Option (DataW H × List MemPlace)) (w : World) (hown : w.ownsMap Try.prog 3 R b nn D0) (hmax : Maps.size D0 ≤ maxLen) (hbytes : Maps.size D0 * 8 ≤ 140737488355328) :
  Calls Try.prog 37 #[.map (some b)] w fun e w' => ∃ (v : Value) (ss : List Int), e = .returned v ∧ ss.Perm (intKeys D0) ∧
   w'.ownsRow w.heap.size 3 1 v ss.length ((ss.mergeSort (fun x y => decide (x ≤ y))).map encZ) ∧ (v = .slice none 0 0 ↔ ss = []) ∧ Below w.heap.size w w' := by
 refine (callsIn_wide (n := 6)).1 ?_
 have hbl := hown.lt
 have hseq : SeqGives Fence.wide 2 Try.prog 63 #[.pointer (some ⟨w.heap.size, 0, none⟩)] encZ (fun ss => ss.Perm (intKeys D0)) (Maps.size D0) (w.alloc (.cells #[.map (some b)] 57)) :=
  AnyZI.keys_gives (ρ := Try.keysA_ren) { Try.keysA with } Fence.wide _ trivial rfl (by omega) w.heap.size b nn D0 _ (by simp) (by simp) (by
   obtain ⟨es, clock, hb, Ft, hs, hD⟩ := hown
   exact ⟨es, clock, (Below.heap_alloc _ _ b hbl).trans hb, Ft, hs, hD⟩)
 have cK : ∀ mb W, CallsIn Fence.wide 5 Try.prog 53 #[.map mb] W fun e w' => e = .returned (.func (.func 63) #[] #[.pointer (some ⟨W.heap.size, 0, none⟩)]) ∧ w' = W.alloc (.cells #[.map mb] 57) := fun mb W => AnyZI.keys_in Try.keysA Fence.wide 5 trivial rfl mb W
 have cS := AnyZI.sorted_in Try.sortedA Fence.wide 5 trivial trivial trivial trivial rfl (by omega) (sorts_int _) (enters_of Try.func62 (by kernel_rfl) rfl) 63 #[.pointer (some ⟨w.heap.size, 0, none⟩)] trivial (enters_of Try.func63 (by kernel_rfl) rfl) _ _ hmax hbytes _ hseq
 change CallsIn _ _ Try.prog 52 _ _ _ at cS
 have hfK : Fence.wide.fn 53 := trivial
 have hfS : Fence.wide.fn 52 := trivial
 refine callsIn_of_wp Try.func37 rfl trivial ?_ rfl
 simp only [Try.ntmps37, List.size_toArray, List.length_cons, List.length_nil, Nat.reduceAdd, Nat.reduceSub, Array.replicate_succ, Array.replicate_zero, List.push_toArray, List.append_toArray, List.nil_append, List.cons_append]
 gi_wp2_with (first
  | (gi_at_call 53; refine (cK _ _).mono ?_; rintro e w' ⟨rfl, rfl⟩)
  | (gi_at_call 52; refine cS.mono ?_; rintro e w' ⟨v, ss, rfl, hS, hrow, hnil, hb⟩))
 go_ret
 exact ⟨v, ss, rfl, hS, ownsRow_base_a hrow (by simp), hnil, ((Below.refl _ w).alloc (Nat.le_refl _) _).trans (hb.mono (by simp))⟩
/-- s.rising(). -/
theorem rising_calls (b n : Nat) (M : Int → Prop) (r : List Int) (w : World) (hs : SetM w b n M) (hn : n ≤ 1000000000) (hr : r.Pairwise (· < ·)) (hm : ∀ x, x ∈ r ↔ M x) :
  Calls Try.prog 37 #[.map (some b)] w fun e w' => ∃ v0_ : Value, e = .returned v0_ ∧ Kd.R (Kd.int .i64) 3 w' w.heap.size (fun _ => True) v0_ r ∧ Below w.heap.size w w' := by
 obtain ⟨D, hown, hM⟩ := hs
 have hsz := hown.size_le
 refine (keys_calls b n D _ w hown (by unfold maxLen; omega) (by omega)).mono ?_
 rintro e w' ⟨v, ss, rfl, hp, hrow, hnil, hb⟩
 have hp2 : r.Perm (intKeys D) := CollectedI.perm (left := fun _ => false) ⟨hr.imp (fun h e => by omega), fun x => by rw [hm, ← hM]; simp⟩ hown keyed_int Try.underlying3 (fun _ => rfl)
 have hms : ss.mergeSort (fun x y => decide (x ≤ y)) = r := by
  have h1 := mergeSort_of_perm_i (hp.trans hp2.symm)
  refine h1.trans ?_
  exact List.mergeSort_of_pairwise (hr.imp (fun h => by simp [leI]; omega))
 rw [hms] at hrow
 have hl : ss.length = r.length := by rw [← hms, List.length_mergeSort]
 rw [hl] at hrow
 exact ⟨v, rfl, R_raw hrow (inner_ints r) (fun _ _ => trivial), hb⟩
/-! #### a map of rows of numbers: edges' ends, by one end -/
def selE (k v : S36 → Int) (l : List S36) (x : Int) : List Int := (l.filter (fun e => k e == x)).map v
def itemsD : DataW Unit → List (DataW Unit)
 | .slice es _ => es
 | _ => []
/-- Block b is a map of rows: at x stands F x; its rows are blocks of P. -/
def GrpM (w : World) (lo b n : Nat) (F : Int → List Int) (P : Nat → Prop) : Prop :=
 ∃ D : DataW Unit, w.ownsGroups Try.prog 3 lo 3 .i64 b n D ∧ Maps.IsMap D ∧ (∀ x, wfI x → itemsD (D.atKey (.int .i64 x) .nil) = Go.ChangeShapes.lits .i64 (F x)) ∧ w.Shuns b (fun k => ¬ P k)
theorem zero_row (w : World) : (zeroValue 23).run Try.prog w = .ok (.slice none 0 0) w := by kernel_rfl
theorem lits_inj {a b : List Int} (h : (Go.ChangeShapes.lits .i64 a : List (DataW Unit)) = Go.ChangeShapes.lits .i64 b) : a = b := by
 unfold Go.ChangeShapes.lits at h
 exact (List.map_inj_right (fun x y hxy => by injection hxy with hxy; injection hxy)).1 h
theorem items_row {w : World} {lo : Nat} {v : Value} {zs : List Int} (h : w.ownsInts lo 3 .i64 v zs) : itemsD (rowDatum .i64 v zs) = Go.ChangeShapes.lits .i64 zs := by
 rcases h.datum (H := Unit) with ⟨h1, rfl⟩ | h1
 ·rw [h1]; rfl
 ·rw [h1]; rfl
section
variable {w w' : World} {lo b n : Nat} {F : Int → List Int} {P : Nat → Prop}
theorem GrpM_lt (h : GrpM w lo b n F P) : b < w.heap.size := by
 obtain ⟨D, ⟨es, clock, hb, _⟩, _⟩ := h
 exact (Array.getElem?_eq_some_iff.1 hb).1
theorem GrpM_kept (h : GrpM w lo b n F P) {row : Option Nat} (hg : w.grownBy w' row) (hb : some b ≠ row) (hr : ∀ j, row = some j → ¬ P j) : GrpM w' lo b n F P := by
 have hlt := GrpM_lt h
 obtain ⟨D, h1, h2, h3, h4⟩ := h
 exact ⟨D, h1.kept hg hb (h4.rowsOff hr), h2, h3, h4.kept hg hlt hb⟩
theorem GrpM_new (w : World) : GrpM (w.alloc (.map #[] 0)) (w.heap.size + 1) w.heap.size 0 (fun _ => []) (fun _ => False) :=
 ⟨.map [], World.ownsGroups_made _ _ _ _ _, ⟨[], rfl⟩, fun x _ => rfl, World.Shuns_made _ _⟩
theorem GrpM_mono (h : GrpM w lo b n F P) {P' : Nat → Prop} (hp : ∀ k, P k → P' k) : GrpM w lo b n F P' := by
 obtain ⟨D, h1, h2, h3, h4⟩ := h
 exact ⟨D, h1, h2, h3, fun es clock hb x hx g hg hn => h4 es clock hb x hx g hg (fun hk => hn (hp g hk))⟩
theorem GrpM_ext (h : GrpM w lo b n F P) {F' : Int → List Int} (hf : ∀ x, wfI x → F x = F' x) : GrpM w lo b n F' P := by
 obtain ⟨D, h1, h2, h3, h4⟩ := h
 exact ⟨D, h1, h2, fun x hx => by rw [h3 x hx, hf x hx], h4⟩
theorem GrpM_at (h : GrpM w lo b n F P) (hn : n < maxLen) {x : Int} (hx : wfI x) :
  ∃ v, (∀ W : World, W.heap[b]? = w.heap[b]? → (Instr.lookup 63 (.map (some b)) (.int .i64 x) false).run Try.prog W = .ok v W) ∧ Kd.R (Kd.int .i64) 3 w lo P v (F x) ∧ (F x).length ≤ n ∧ (∀ z ∈ F x, wfI z) ∧
   ∀ (w1 : World) (v' : Value) (y : Int) (P' : Nat → Prop), w.grownBy w1 v.ownBlock → Kd.R (Kd.int .i64) 3 w1 lo P' v' (F x ++ [y]) → wfI y → (∀ k, P k → P' k) → (v'.ownBlock = v.ownBlock ∨ ∃ g, v'.ownBlock = some g ∧ w.heap.size ≤ g) →
    ∃ w2, (Instr.mapUpdate 63 (.map (some b)) (.int .i64 x) v').run Try.prog w1 = .ok () w2 ∧ GrpM w2 lo b (n + 1) (fun z => if z = x then F x ++ [y] else F z) P' ∧ w1.grownBy w2 (some b) := by
 obtain ⟨D, hown, hIM, hF, hsh⟩ := h
 have hkey := key_int hx
 obtain ⟨v, zs, hrun, hat, hoi, hzl, hback⟩ := hown.at keyed_int Try.underlying63 (zero_row w) hn hkey
 have hown0 := hown
 obtain ⟨es, clock, hb, Ft, hs, hD, hbb, hlen, hap⟩ := hown
 have hzs : zs = F x := by
  have h1 := hF x hx
  rw [hat, items_row hoi] at h1
  exact lits_inj h1
 subst hzs
 have hdist : es.toList.Pairwise (fun a b => a.key ≠ b.key) := ((Go.MapKept.stamped_iff es clock).1 Ft.stamped).2.2
 have hruns : ∀ W : World, W.heap[b]? = some (.map es clock) → (∃ e0 ∈ es.toList, e0.key = .int .i64 x ∧ (Instr.lookup 63 (.map (some b)) (.int .i64 x) false).run Try.prog W = .ok e0.val W) ∨
   ((∀ e0 ∈ es.toList, e0.key ≠ .int .i64 x) ∧ (Instr.lookup 63 (.map (some b)) (.int .i64 x) false).run Try.prog W = .ok (.slice none 0 0) W) := by
  intro W hW
  rcases Maps.fit_look false keyed_int Try.underlying63 (zero_row W) hW Ft hkey with ⟨h1, h2, _⟩ | ⟨e0, _, h1, h2, h3, _⟩
  ·exact .inr ⟨h2, h1⟩
  ·exact .inl ⟨e0, h1, h2, h3⟩
 have hsame : ∀ W : World, W.heap[b]? = w.heap[b]? → (Instr.lookup 63 (.map (some b)) (.int .i64 x) false).run Try.prog W = .ok v W := by
  intro W hW
  rcases hruns w hb with ⟨e0, m0, k0, r0⟩ | ⟨n0, r0⟩ <;> rcases hruns W (hW.trans hb) with ⟨e1, m1, k1, r1⟩ | ⟨n1, r1⟩
  ·have he : e0 = e1 := by
    obtain ⟨i, hi, rfl⟩ := List.getElem_of_mem m0
    obtain ⟨j, hj, rfl⟩ := List.getElem_of_mem m1
    rcases Nat.lt_trichotomy i j with hij | hij | hij
    ·exact absurd (k0.trans k1.symm) (List.pairwise_iff_getElem.1 hdist i j hi hj hij)
    ·subst hij; rfl
    ·exact absurd (k1.trans k0.symm) (List.pairwise_iff_getElem.1 hdist j i hj hi hij)
   rw [hrun] at r0
   obtain rfl : v = e0.val := by simpa using r0
   rw [r1, he]
  ·exact absurd k0 (n1 e0 m0)
  ·exact absurd k1 (n0 e1 m1)
  ·rw [hrun] at r0
   obtain rfl : v = .slice none 0 0 := by simpa using r0
   exact r1
 have hP : ∀ g, v.ownBlock = some g → P g := by
  intro g hg
  rcases hruns w hb with ⟨e0, m0, k0, r0⟩ | ⟨n0, r0⟩
  ·rw [hrun] at r0
   obtain rfl : v = e0.val := by simpa using r0
   exact Classical.not_not.1 (hsh es clock hb e0 m0 g hg)
  ·rw [hrun] at r0
   obtain rfl : v = .slice none 0 0 := by simpa using r0
   cases hg
 refine ⟨v, hsame, R_raw hoi.1 (inner_ints _) hP, hzl, hoi.2, fun w1 v' y P' hg hR hy hPP hloc => ?_⟩
 obtain ⟨inner, ho, hir⟩ := raw_R free_intK hR
 rw [ints_inner hir] at ho
 have hoi' : w1.ownsInts lo 3 .i64 v' (F x ++ [y]) := ⟨ho, fun z hz => by
  rcases List.mem_append.1 hz with h | h
  ·exact hoi.2 z h
  ·rw [List.mem_singleton] at h; subst h; exact hy⟩
 obtain ⟨w2, hrun2, hown2, hg2⟩ := hback w1 v' (F x ++ [y]) hg hoi' (by rw [List.length_append]; exact Nat.succ_le_succ hzl) hloc
 refine ⟨w2, hrun2, ⟨_, hown2, hIM.put _ _, fun z hz => ?_, ?_⟩, hg2⟩
 ·show itemsD _ = Go.ChangeShapes.lits .i64 (if z = x then F x ++ [y] else F z)
  by_cases e : z = x
  ·subst e
   rw [Maps.atKey_put_same hIM (keyed_int.key hkey), if_pos rfl, items_row hoi']
  ·rw [Maps.atKey_put_other (by intro h; injection h with _ h; exact e h), if_neg e]
   exact hF z hz
 ·have hblt : b < w.heap.size := (Array.getElem?_eq_some_iff.1 hb).1
  have hb1 : w1.heap[b]? = some (.map es clock) := (hg.block b hblt (fun e1 => by have := (hoi.1.lt b e1.symm).1; omega)).trans hb
  obtain ⟨es', clock', hb2, hwho⟩ := stored_who keyed_int Try.underlying63 hb1 Ft (Nat.lt_of_le_of_lt hs hn) hkey hrun2
  intro es2 clock2 hb2' z hz g hzg
  obtain ⟨rfl, rfl⟩ : es' = es2 ∧ clock' = clock2 := by rw [hb2] at hb2'; simpa using hb2'
  rcases hwho z hz with ⟨hz0, _⟩ | ⟨_, hval⟩
  ·exact fun hn => hsh es clock hb z hz0 g hzg (fun hp => hn (hPP g hp))
  ·exact fun hn => hn (hR.1 g (hval ▸ hzg))
end
/-- Read in whatever world whose blocks lo .. hi are w's: at x stands F x. -/
def NextOK (w : World) (lo hi b : Nat) (F : Int → List Int) : Prop :=
 ∀ x, wfI x → ∃ A c, (F x).length ≤ c ∧ (∀ z ∈ F x, wfI z) ∧ ∀ W : World, (∀ k, lo ≤ k → k < hi → W.heap[k]? = w.heap[k]?) → (Instr.lookup 63 (.map (some b)) (.int .i64 x) false).run Try.prog W = .ok (.slice A (F x).length c) W ∧ Kd.C (Kd.int .i64) W A (F x).length (F x)
theorem NextOK_of {w : World} {lo b n : Nat} {F : Int → List Int} {P : Nat → Prop} (h : GrpM w lo b n F P) (hn : n < maxLen) {a c : Nat} (hb1 : a ≤ b) (hb2 : b < c) (hP : ∀ k, P k → a ≤ k ∧ k < c) : NextOK w a c b F := by
 intro x hx
 obtain ⟨v, hrun, hR, _, hwf, _⟩ := GrpM_at h hn hx
 obtain ⟨A, cc, he, hl, _⟩ := Kd.R_reads hR
 subst he
 refine ⟨A, cc, by omega, hwf, fun W hW => ⟨hrun W (hW b hb1 hb2), ?_⟩⟩
 have hR2 : Kd.R (Kd.int .i64) 3 W lo P (.slice A (F x).length cc) (F x) := Kd.R_move hR (fun k hk => hW k (hP k hk).1 (hP k hk).2)
 exact (Kd.R_reads' hR2).2.2
theorem NextOK_kept {w w' : World} {lo hi b : Nat} {F : Int → List Int} (h : NextOK w lo hi b F) (hk : ∀ k, lo ≤ k → k < hi → w'.heap[k]? = w.heap[k]?) : NextOK w' lo hi b F := fun x hx => by
 obtain ⟨A, c, h1, h2, h3⟩ := h x hx
 exact ⟨A, c, h1, h2, fun W hW => h3 W (fun k ha hb => (hW k ha hb).trans (hk k ha hb))⟩
theorem NextOK_set {w : World} {lo hi b : Nat} {F : Int → List Int} (h : NextOK w lo hi b F) {p : Addr} (hp : p.block < lo) (u : Value) : NextOK (w.setCell p u) lo hi b F :=
 NextOK_kept h (fun k h1 _ => Below.heap_setCell w p u k (by omega))
theorem size_set (w : World) (p : Addr) (u : Value) : (w.setCell p u).heap.size = w.heap.size := by simp [World.setCell]
/-- Between two rounds of paths: both maps, whose rows are apart, and the boxes. -/
def PInv (w wr : World) (j1 j2 : Nat) (F1 F2 : Int → List Int) (P1 P2 : Nat → Prop) : Prop :=
 GrpM wr (w.heap.size + 2) (w.heap.size + 1) j1 F1 P1 ∧ GrpM wr (w.heap.size + 3) (w.heap.size + 1 + 1) j2 F2 P2 ∧ (∀ k, P1 k → w.heap.size + 4 ≤ k ∧ k < wr.heap.size) ∧ (∀ k, P2 k → w.heap.size + 4 ≤ k ∧ k < wr.heap.size) ∧ (∀ k, P1 k → ¬ P2 k) ∧
  wr.heap[w.heap.size]? = some (.cells #[.map none, .map none] 65 (0, 0)) ∧ wr.heap[w.heap.size + 1 + 1 + 1]? = some (.cells #[.map (some (w.heap.size + 1)), .map (some (w.heap.size + 1 + 1))] 65 (0, 0)) ∧ Below w.heap.size w wr ∧ w.heap.size + 4 ≤ wr.heap.size
/-- What a row that has grown by one is good for. -/
def PBack (b lo : Nat) (w : World) (v : Value) (F : Int → List Int) (P : Nat → Prop) (n : Nat) (x : Int) : Prop :=
 ∀ (w1 : World) (v' : Value) (y : Int) (P' : Nat → Prop), w.grownBy w1 v.ownBlock → Kd.R (Kd.int .i64) 3 w1 lo P' v' (F x ++ [y]) → wfI y → (∀ k, P k → P' k) → (v'.ownBlock = v.ownBlock ∨ ∃ g, v'.ownBlock = some g ∧ w.heap.size ≤ g) →
  ∃ w2, (Instr.mapUpdate 63 (.map (some b)) (.int .i64 x) v').run Try.prog w1 = .ok () w2 ∧ GrpM w2 lo b (n + 1) (fun z => if z = x then F x ++ [y] else F z) P' ∧ w1.grownBy w2 (some b)
section
variable {w wr w' w6 w7 : World} {j1 j2 : Nat} {F1 F2 F' : Int → List Int} {P1 P2 : Nat → Prop} {v : Value} {x : Int}
theorem World.grownBy_drew (w : World) : w.grownBy w.drew none := ⟨rfl, rfl, rfl, Nat.le_refl _, fun _ _ _ => rfl⟩
theorem PInv_lt1 (h : PInv w wr j1 j2 F1 F2 P1 P2) : ∀ k, P1 k → w.heap.size + 4 ≤ k ∧ k < wr.heap.size := h.2.2.1
theorem PInv_lt2 (h : PInv w wr j1 j2 F1 F2 P1 P2) : ∀ k, P2 k → w.heap.size + 4 ≤ k ∧ k < wr.heap.size := h.2.2.2.1
theorem PInv_none (h : PInv w wr j1 j2 F1 F2 P1 P2) (hg : wr.grownBy w' none) : PInv w w' j1 j2 F1 F2 P1 P2 := by
 obtain ⟨h1, h2, h3, h4, h5, h6, h7, h8, h9⟩ := h
 have hs := hg.size
 exact ⟨GrpM_kept h1 hg (by simp) (fun j hj => by cases hj), GrpM_kept h2 hg (by simp) (fun j hj => by cases hj), fun k hk => ⟨(h3 k hk).1, by have := (h3 k hk).2; omega⟩, fun k hk => ⟨(h4 k hk).1, by have := (h4 k hk).2; omega⟩, h5,
  blk_grown h6 hg (by simp), blk_grown h7 hg (by simp), Below.grown h8 hg (by omega) (fun k hk => by cases hk), by omega⟩
theorem PInv_at1 (h : PInv w wr j1 j2 F1 F2 P1 P2) (hn : j1 < 1000000000) (hx : wfI x) : ∃ v, (∀ W : World, W.heap[w.heap.size + 1]? = wr.heap[w.heap.size + 1]? → (Instr.lookup 63 (.map (some (w.heap.size + 1))) (.int .i64 x) false).run Try.prog W = .ok v W) ∧
  Kd.R (Kd.int .i64) 3 wr (w.heap.size + 2) P1 v (F1 x) ∧ (F1 x).length ≤ j1 ∧ PBack (w.heap.size + 1) (w.heap.size + 2) wr v F1 P1 j1 x := by
 obtain ⟨v, a, b, c, _, d⟩ := GrpM_at h.1 (by unfold maxLen; omega) hx
 exact ⟨v, a, b, c, d⟩
theorem PInv_at2 (h : PInv w wr j1 j2 F1 F2 P1 P2) (hn : j2 < 1000000000) (hx : wfI x) : ∃ v, (∀ W : World, W.heap[w.heap.size + 1 + 1]? = wr.heap[w.heap.size + 1 + 1]? → (Instr.lookup 63 (.map (some (w.heap.size + 1 + 1))) (.int .i64 x) false).run Try.prog W = .ok v W) ∧
  Kd.R (Kd.int .i64) 3 wr (w.heap.size + 3) P2 v (F2 x) ∧ (F2 x).length ≤ j2 ∧ PBack (w.heap.size + 1 + 1) (w.heap.size + 3) wr v F2 P2 j2 x := by
 obtain ⟨v, a, b, c, _, d⟩ := GrpM_at h.2.1 (by unfold maxLen; omega) hx
 exact ⟨v, a, b, c, d⟩
theorem PInv_maplt1 (h : PInv w wr j1 j2 F1 F2 P1 P2) : w.heap.size + 1 < wr.heap.size := GrpM_lt h.1
theorem PInv_maplt2 (h : PInv w wr j1 j2 F1 F2 P1 P2) : w.heap.size + 1 + 1 < wr.heap.size := GrpM_lt h.2.1
theorem PInv_map1_alloc (h : PInv w wr j1 j2 F1 F2 P1 P2) (o : Obj) : (wr.alloc o).heap[w.heap.size + 1]? = wr.heap[w.heap.size + 1]? := Below.heap_alloc wr o _ (PInv_maplt1 h)
theorem PInv_map2_alloc (h : PInv w wr j1 j2 F1 F2 P1 P2) (o : Obj) : (wr.alloc o).heap[w.heap.size + 1 + 1]? = wr.heap[w.heap.size + 1 + 1]? := Below.heap_alloc wr o _ (PInv_maplt2 h)
theorem PInv_off1 (h : PInv w wr j1 j2 F1 F2 P1 P2) (hv : ∀ g, v.ownBlock = some g → P1 g) {g : Nat} (hg : g < w.heap.size + 4 ∨ g < w.heap.size + 4) : some g ≠ v.ownBlock := fun e => by
 have := (h.2.2.1 g (hv g e.symm)).1
 omega
theorem PInv_off2 (h : PInv w wr j1 j2 F1 F2 P1 P2) (hv : ∀ g, v.ownBlock = some g → P2 g) {g : Nat} (hg : g < w.heap.size + 4 ∨ g < w.heap.size + 4) : some g ≠ v.ownBlock := fun e => by
 have := (h.2.2.2.1 g (hv g e.symm)).1
 omega
theorem PInv_step1 (h : PInv w wr j1 j2 F1 F2 P1 P2) (hg : wr.grownBy w6 v.ownBlock) (hv : ∀ g, v.ownBlock = some g → P1 g) (hG : GrpM w7 (w.heap.size + 2) (w.heap.size + 1) (j1 + 1) F' (fun k => (P1 k ∨ wr.heap.size ≤ k) ∧ k < w6.heap.size)) (hg7 : w6.grownBy w7 (some (w.heap.size + 1))) :
  PInv w w7 (j1 + 1) j2 F' F2 (fun k => (P1 k ∨ wr.heap.size ≤ k) ∧ k < w6.heap.size) P2 := by
 have ho1 := @PInv_off1 w wr j1 j2 F1 F2 P1 P2 v h hv
 obtain ⟨h1, h2, h3, h4, h5, h6, h7, h8, h9⟩ := h
 have hs := hg.size
 have hs7 := hg7.size
 refine ⟨hG, ?_, fun k hk => ⟨?_, by omega⟩, fun k hk => ⟨(h4 k hk).1, by have := (h4 k hk).2; omega⟩, fun k hk hk2 => ?_, ?_, ?_, ?_, by omega⟩
 ·refine GrpM_kept (GrpM_kept h2 hg (ho1 (.inl (by omega))) (fun j hj => h5 j (hv j hj))) hg7 (by simp) (fun j hj hp => ?_)
  have := (h4 j hp).1
  have := Option.some.inj hj
  omega
 ·rcases hk.1 with hk | hk
  ·exact (h3 k hk).1
  ·omega
 ·rcases hk.1 with hk | hk
  ·exact h5 k hk hk2
  ·have := (h4 k hk2).2; omega
 ·exact blk_grown (blk_grown h6 hg (ho1 (.inl (by omega)))) hg7 (fun e => by have := Option.some.inj e; omega)
 ·exact blk_grown (blk_grown h7 hg (ho1 (.inl (by omega)))) hg7 (fun e => by have := Option.some.inj e; omega)
 ·exact Below.grown (Below.grown h8 hg (by omega) (fun k hk => by have := (h3 k (hv k hk)).1; omega)) hg7 (by omega) (fun k hk => by have := Option.some.inj hk; omega)
theorem PInv_step2 (h : PInv w wr j1 j2 F1 F2 P1 P2) (hg : wr.grownBy w6 v.ownBlock) (hv : ∀ g, v.ownBlock = some g → P2 g) (hG : GrpM w7 (w.heap.size + 3) (w.heap.size + 1 + 1) (j2 + 1) F' (fun k => (P2 k ∨ wr.heap.size ≤ k) ∧ k < w6.heap.size)) (hg7 : w6.grownBy w7 (some (w.heap.size + 1 + 1))) :
  PInv w w7 j1 (j2 + 1) F1 F' P1 (fun k => (P2 k ∨ wr.heap.size ≤ k) ∧ k < w6.heap.size) := by
 have ho1 := @PInv_off2 w wr j1 j2 F1 F2 P1 P2 v h hv
 obtain ⟨h1, h2, h3, h4, h5, h6, h7, h8, h9⟩ := h
 have hs := hg.size
 have hs7 := hg7.size
 refine ⟨?_, hG, fun k hk => ⟨(h3 k hk).1, by have := (h3 k hk).2; omega⟩, fun k hk => ⟨?_, by omega⟩, fun k hk2 hk => ?_, ?_, ?_, ?_, by omega⟩
 ·refine GrpM_kept (GrpM_kept h1 hg (ho1 (.inl (by omega))) (fun j hj hp => h5 j hp (hv j hj))) hg7 (by simp) (fun j hj hp => ?_)
  have := (h3 j hp).1
  have := Option.some.inj hj
  omega
 ·rcases hk.1 with hk | hk
  ·exact (h4 k hk).1
  ·omega
 ·rcases hk.1 with hk | hk
  ·exact h5 k hk2 hk
  ·have := (h3 k hk2).2; omega
 ·exact blk_grown (blk_grown h6 hg (ho1 (.inl (by omega)))) hg7 (fun e => by have := Option.some.inj e; omega)
 ·exact blk_grown (blk_grown h7 hg (ho1 (.inl (by omega)))) hg7 (fun e => by have := Option.some.inj e; omega)
 ·exact Below.grown (Below.grown h8 hg (by omega) (fun k hk => by have := (h4 k (hv k hk)).1; omega)) hg7 (by omega) (fun k hk => by have := Option.some.inj hk; omega)
end
theorem selE_snoc (k v : S36 → Int) (l : List S36) (e : S36) : selE k v (l ++ [e]) = fun z => if z = k e then selE k v l (k e) ++ [v e] else selE k v l z := by
 funext z
 unfold selE
 rw [List.filter_append, List.map_append]
 by_cases h : z = k e
 ·subst h; rw [if_pos rfl]; simp
 ·rw [if_neg h]; simp [Ne.symm h]
set_option maxRecDepth 100000 in
set_option maxHeartbeats 4000000 in
theorem paths_calls (A0 : Option Addr) (c0 : Nat) (l : List S36) (w : World) (hr : Kd.C k36 w A0 l.length l) (hl : l.length < 1000000000) (hw : ∀ e ∈ l, wfI e.f0 ∧ wfI e.f1) :
  Calls Try.prog 35 #[.slice A0 l.length c0] w fun e w' => ∃ nb bb : Nat, e = .returned (.agg #[.map (some nb), .map (some bb)]) ∧ Below w.heap.size w w' ∧ NextOK w' (w.heap.size + 1) w'.heap.size nb (selE (·.f0) (·.f1) l) ∧ NextOK w' (w.heap.size + 1) w'.heap.size bb (selE (·.f1) (·.f0) l) := by
 have HR0 := Aside0.mk hr
 have HL := Aside0.mk hl
 have HW := Aside0.mk hw
 have hmm := @run_makeMap Try.prog
 have huM := Try.underlying63
 have huW := Try.underlying65
 have huE := Try.underlying36
 have hl63 : l.length ≤ 9223372036854775807 := by omega
 clear hr hl hw
 go_enter Try.func35, Try.ntmps35
 go_wp2
 clear hmm
 have hst : PInv w ((((w.alloc (.cells #[.map none, .map none] 65)).alloc (.map #[] 0)).alloc (.map #[] 0)).alloc (.cells #[.map (some (w.heap.size + 1)), .map (some (w.heap.size + 1 + 1))] 65)) 0 0 (fun _ => []) (fun _ => []) (fun _ => False) (fun _ => False) := by
  obtain ⟨wa, hwa⟩ : ∃ wa, wa = w.alloc (.cells #[.map none, .map none] 65) := ⟨_, rfl⟩
  rw [← hwa]
  have sa : wa.heap.size = w.heap.size + 1 := by rw [hwa]; simp
  obtain ⟨wb, hwb⟩ : ∃ wb, wb = wa.alloc (.map #[] 0) := ⟨_, rfl⟩
  rw [← hwb]
  have sb : wb.heap.size = w.heap.size + 1 + 1 := by rw [hwb]; simp [sa]
  obtain ⟨wx, hwx⟩ : ∃ wx, wx = wb.alloc (.map #[] 0) := ⟨_, rfl⟩
  rw [← hwx]
  have sx : wx.heap.size = w.heap.size + 1 + 1 + 1 := by rw [hwx]; simp [sb]
  have ga : w.grownBy wa none := by rw [hwa]; exact World.grownBy_alloc _ _ _
  have gb : wa.grownBy wb none := by rw [hwb]; exact World.grownBy_alloc _ _ _
  have gx : wb.grownBy wx none := by rw [hwx]; exact World.grownBy_alloc _ _ _
  have gc := fun o => World.grownBy_alloc wx o none
  have G1 := GrpM_new wa
  rw [← hwb, sa] at G1
  have G2 := GrpM_new wb
  rw [← hwx, sb] at G2
  have K0 : wa.heap[w.heap.size]? = some (.cells #[.map none, .map none] 65 (0, 0)) := by rw [hwa]; exact heap_alloc_new w _
  refine ⟨GrpM_kept (GrpM_kept G1 gx (by simp) (fun _ h => by cases h)) (gc _) (by simp) (fun _ h => by cases h), GrpM_kept G2 (gc _) (by simp) (fun _ h => by cases h), fun _ h => h.elim, fun _ h => h.elim, fun _ h => h.elim,
   blk_grown (blk_grown (blk_grown K0 gb (by simp)) gx (by simp)) (gc _) (by simp), by rw [← sx]; exact heap_alloc_new wx _, ?_, by simp [sx]⟩
  exact (((by rw [hwa]; exact (Below.refl _ _).alloc (Nat.le_refl _) _ : Below w.heap.size w wa)).grown gb (by omega) (fun _ h => by cases h)).grown gx (by omega) (fun _ h => by cases h) |>.grown (gc _) (by omega) (fun _ h => by cases h)
 have HI := Aside0.mk hst
 clear hst
 go_loopw [11] (fun v11 wr => ∃ (j : Nat) (jv : Int) (P1 P2 : Nat → Prop), j ≤ l.length ∧ jv = (j : Int) ∧ v11 = .int .i64 jv ∧ Aside0 (PInv w wr j j (selE (·.f0) (·.f1) (l.take j)) (selE (·.f1) (·.f0) (l.take j)) P1 P2)) (fun v11 _ => l.length - (intOf v11).toNat)
 case atStart => exact ⟨0, 0, _, _, by omega, rfl, rfl, HI⟩
 case round =>
  clear HI
  obtain ⟨j, jv, P1, P2, hj, hjv, rfl, HI⟩ := hrel
  by_cases hlt : j < l.length
  case neg =>
   have hnl : ¬ (jv < (l.length : Int)) := by omega
   have hi := HI.out
   rw [List.take_of_length_le (by omega)] at hi
   have HI2 := Aside0.mk hi
   have hc0 : wr.cell? ⟨w.heap.size + 1 + 1 + 1, 0, none⟩ = some (.map (some (w.heap.size + 1))) := (blk_cell hi.2.2.2.2.2.2.1 0).trans rfl
   have hc1 : wr.cell? ⟨w.heap.size + 1 + 1 + 1, 1, none⟩ = some (.map (some (w.heap.size + 1 + 1))) := (blk_cell hi.2.2.2.2.2.2.1 1).trans rfl
   have hz0 : wr.cell? ⟨w.heap.size, 0, none⟩ = some (.map none) := (blk_cell hi.2.2.2.2.2.1 0).trans rfl
   have hz1 : wr.cell? ⟨w.heap.size, 1, none⟩ = some (.map none) := (blk_cell hi.2.2.2.2.2.1 1).trans rfl
   have hf0 := blk_frozen hi.2.2.2.2.2.1 0
   have hf1 := blk_frozen hi.2.2.2.2.2.1 1
   have HK2 := Aside0.mk hi.2.2.2.2.2.1
   clear hi HI
   go_wp2
   refine bodyPost_ret (results_single (r := .cell 2 65) rfl (.cell w.heap.size 65 #[.map (some (w.heap.size + 1)), .map (some (w.heap.size + 1 + 1))] (0, 0) _ rfl (by refine blk_put (cs := #[.map (some (w.heap.size + 1)), .map none]) ?_ 1 _ rfl; refine blk_put (cs := #[.map none, .map none]) ?_ 0 _ rfl; exact HK2.out) Try.underlying65 rfl (by kernel_rfl) .nil)) rfl ?_
   obtain ⟨h1, h2, h3, h4, h5, h6, h7, h8, h9⟩ := HI2.out
   have hj := HL.out
   refine ⟨_, _, rfl, below_set (below_set h8 (Nat.le_refl _)) (Nat.le_refl _), ?_, ?_⟩
   ·rw [size_set, size_set]
    exact NextOK_set (p := ⟨w.heap.size, 1, none⟩) (NextOK_set (p := ⟨w.heap.size, 0, none⟩) (NextOK_of (a := w.heap.size + 1) (c := wr.heap.size) h1 (by unfold maxLen; omega) (Nat.le_refl _) (GrpM_lt h1) (fun k hk => ⟨by have := (h3 k hk).1; omega, (h3 k hk).2⟩)) (Nat.lt_succ_self _) _) (Nat.lt_succ_self _) _
   ·rw [size_set, size_set]
    exact NextOK_set (p := ⟨w.heap.size, 1, none⟩) (NextOK_set (p := ⟨w.heap.size, 0, none⟩) (NextOK_of (a := w.heap.size + 1) (c := wr.heap.size) h2 (by unfold maxLen; omega) (by omega) (GrpM_lt h2) (fun k hk => ⟨by have := (h4 k hk).1; omega, (h4 k hk).2⟩)) (Nat.lt_succ_self _) _) (Nat.lt_succ_self _) _
  case pos =>
   have p0 : (0 : Int) ≤ jv := by omega
   have q0 : jv < (l.length : Int) := by omega
   obtain ⟨ad, ead, hx0, hx1, hx2⟩ := at_T36 (Kd.C_below HR0.out HI.out.2.2.2.2.2.2.2.1) jv p0 q0
   cases ead
   have hrd : rd_T36 l jv = l[j] := by rw [hjv]; simp [rd_T36, List.getD_eq_getElem?_getD, hlt]
   obtain ⟨⟨x0, x1, x2⟩, hxe⟩ : ∃ x, x = l[j] := ⟨_, rfl⟩
   rw [hrd, ← hxe] at hx0 hx1 hx2
   have htk : l.take (j + 1) = l.take j ++ [⟨x0, x1, x2⟩] := by rw [List.take_succ_eq_append_getElem hlt, hxe]
   have HTK := Aside0.mk htk
   have HX0 : Aside0 (wfI x0) := ⟨by have := HW.out _ (List.getElem_mem hlt); rw [← hxe] at this; exact this.1⟩
   have HX1 : Aside0 (wfI x1) := ⟨by have := HW.out _ (List.getElem_mem hlt); rw [← hxe] at this; exact this.2⟩
   have HJ : Aside0 (j < 1000000000) := ⟨by have := HL.out; omega⟩
   have Hjv := Aside0.mk hjv
   have Hlt := Aside0.mk hlt
   simp only at hx0 hx1 hx2
   clear hrd hxe htk hjv hj hlt
   go_wp2
   have n0_ := Aside0.mk (PInv_none HI.out (World.grownBy_alloc wr (.cells #[.int .i64 x0, .int .i64 x1, .int .i64 x2] 36) none))
   have BK5 := Aside0.mk (heap_alloc_new wr (.cells #[.int .i64 x0, .int .i64 x1, .int .i64 x2] 36))
   have HG5 := Aside0.mk (show w.heap.size + 4 ≤ wr.heap.size from HI.out.2.2.2.2.2.2.2.2)
   clear HI hx0 hx1 hx2
   have HI := n0_
   clear n0_
   generalize wr.alloc (.cells #[.int .i64 x0, .int .i64 x1, .int .i64 x2] 36) = wc at HI BK5 ⊢
   change Aside0 (wc.heap[wr.heap.size]? = some (.cells #[.int .i64 x0, .int .i64 x1, .int .i64 x2] 36 (0, 0))) at BK5
   generalize wr.heap.size = g5 at BK5 HG5 ⊢
   -- region 5
   obtain ⟨v, hrun, hRv, hfl, hback⟩ := (PInv_at1 HI.out HJ.out HX0.out)
   have HV := Aside0.mk hRv
   have HBK := Aside0.mk hback
   have HFL := Aside0.mk hfl
   have HRUN := Aside0.mk hrun
   clear hrun hRv hback hfl
   refine start_ (n := 14) (S := fun w' => w'.cell? ⟨w.heap.size + 1 + 1 + 1, 0, none⟩ = some (.map (some (w.heap.size + 1))) ∧ w'.cell? ⟨g5, 0, none⟩ = some (.int .i64 x0) ∧ w'.cell? ⟨g5, 1, none⟩ = some (.int .i64 x1) ∧ (Instr.lookup 63 (.map (some (w.heap.size + 1))) (.int .i64 x0) false).run Try.prog w' = .ok v w') (ds := [13]) #[false, false, false, false, false, false, false, false, false, false, false, false, false, false] (by kernel_rfl) rfl rfl ⟨(blk_cell HI.out.2.2.2.2.2.2.1 0).trans rfl, (blk_cell BK5.out 0).trans rfl, (blk_cell BK5.out 1).trans rfl, HRUN.out _ rfl⟩ (fun hHeld => ?_)
   have n0_ := Aside0.mk (PInv_none HI.out (World.grownBy_drew _))
   have n1_ := Aside0.mk (blk_drew BK5.out)
   have n2_ := Aside0.mk (show Kd.R (Kd.int .i64) 3 wc.drew (w.heap.size + 2) P1 v (selE (·.f0) (·.f1) (l.take j) x0) from Kd.R_drew HV.out)
   have n3_ := Aside0.mk (show ∀ W : World, W.heap[(w.heap.size + 1)]? = wc.drew.heap[(w.heap.size + 1)]? → (Instr.lookup 63 (.map (some (w.heap.size + 1))) (.int .i64 x0) false).run Try.prog W = .ok v W from HRUN.out)
   have n4_ := Aside0.mk (show PBack (w.heap.size + 1) (w.heap.size + 2) wc.drew v (selE (·.f0) (·.f1) (l.take j)) P1 j x0 from fun w1 v1 y P0 hg => HBK.out w1 v1 y P0 ⟨hg.os, hg.tape, hg.output, hg.size, hg.block⟩)
   clear HI BK5 HV HRUN HBK
   have HI := n0_
   have BK5 := n1_
   have HV := n2_
   have HRUN := n3_
   have HBK := n4_
   clear n0_ n1_ n2_ n3_ n4_
   generalize wc.drew = wd at HI BK5 HV HRUN HBK hHeld ⊢
   refine pure_ (i := 0) (N := some 15) (v := ?_) (a' := ?_) #[true, false, false, false, false, false, false, false, false, false, false, false, false, false] rfl rfl (by kernel_rfl) (fun _ _ _ h => h) (Or.inl ⟨by rfl, ?_⟩) ?_ ?_
   rotate_left
   ·intro w'
    go_simp
    with_reducible rfl
   rotate_left
   ·simp only [Act.put, List.setIfInBounds_toArray, List.set_cons_zero, List.set_cons_succ, i64_w, i32_w]
    rfl
   refine take_ (i := 1) (N := some 16) (v := ?_) (a' := ?_) #[true, true, false, false, false, false, false, false, false, false, false, false, false, false] rfl rfl (by kernel_rfl) (fun _ _ _ h => h) (Or.inl ⟨by rfl, ?_⟩) hHeld ?_ ?_
   rotate_left
   ·rintro w' ⟨s0, s1, s2, s3⟩
    go_simp
    with_reducible rfl
   rotate_left
   ·simp only [Act.put, List.setIfInBounds_toArray, List.set_cons_zero, List.set_cons_succ, i64_w, i32_w]
    rfl
   refine pure_ (i := 2) (N := some 17) (v := ?_) (a' := ?_) #[true, true, true, false, false, false, false, false, false, false, false, false, false, false] rfl rfl (by kernel_rfl) (fun _ _ _ h => h) (Or.inl ⟨by rfl, ?_⟩) ?_ ?_
   rotate_left
   ·intro w'
    go_simp
    with_reducible rfl
   rotate_left
   ·simp only [Act.put, List.setIfInBounds_toArray, List.set_cons_zero, List.set_cons_succ, i64_w, i32_w]
    rfl
   refine take_ (i := 3) (N := some 18) (v := ?_) (a' := ?_) #[true, true, true, true, false, false, false, false, false, false, false, false, false, false] rfl rfl (by kernel_rfl) (fun _ _ _ h => h) (Or.inl ⟨by rfl, ?_⟩) hHeld ?_ ?_
   rotate_left
   ·rintro w' ⟨s0, s1, s2, s3⟩
    go_simp
    with_reducible rfl
   rotate_left
   ·simp only [Act.put, List.setIfInBounds_toArray, List.set_cons_zero, List.set_cons_succ, i64_w, i32_w]
    rfl
   refine pure_ (i := 4) (N := some 19) (v := ?_) (a' := ?_) #[true, true, true, true, true, false, false, false, false, false, false, false, false, false] rfl rfl (by kernel_rfl) (fun _ _ _ h => h) (Or.inl ⟨by rfl, ?_⟩) ?_ ?_
   rotate_left
   ·intro w'
    go_simp
    with_reducible rfl
   rotate_left
   ·simp only [Act.put, List.setIfInBounds_toArray, List.set_cons_zero, List.set_cons_succ, i64_w, i32_w]
    rfl
   refine take_ (i := 5) (N := some 20) (v := ?_) (a' := ?_) #[true, true, true, true, true, true, false, false, false, false, false, false, false, false] rfl rfl (by kernel_rfl) (fun _ _ _ h => h) (Or.inl ⟨by rfl, ?_⟩) hHeld ?_ ?_
   rotate_left
   ·rintro w' ⟨s0, s1, s2, s3⟩
    go_simp
    with_reducible rfl
   rotate_left
   ·simp only [Act.put, List.setIfInBounds_toArray, List.set_cons_zero, List.set_cons_succ, i64_w, i32_w]
    rfl
   refine pure_ (i := 6) (N := some 21) (v := ?_) (a' := ?_) #[true, true, true, true, true, true, true, false, false, false, false, false, false, false] rfl rfl (by kernel_rfl) (fun _ _ _ h => h) (Or.inl ⟨by rfl, ?_⟩) ?_ ?_
   rotate_left
   ·intro w'
    go_simp
    with_reducible rfl
   rotate_left
   ·simp only [Act.put, List.setIfInBounds_toArray, List.set_cons_zero, List.set_cons_succ, i64_w, i32_w]
    rfl
   refine take_ (i := 7) (N := some 22) (v := ?_) (a' := ?_) #[true, true, true, true, true, true, true, true, false, false, false, false, false, false] rfl rfl (by kernel_rfl) (fun _ _ _ h => h) (Or.inl ⟨by rfl, ?_⟩) hHeld ?_ ?_
   rotate_left
   ·rintro w' ⟨s0, s1, s2, s3⟩
    go_simp
    with_reducible rfl
   rotate_left
   ·simp only [Act.put, List.setIfInBounds_toArray, List.set_cons_zero, List.set_cons_succ, i64_w, i32_w]
    rfl
   refine take_ (i := 8) (N := some 23) (v := ?_) (a' := ?_) #[true, true, true, true, true, true, true, true, true, false, false, false, false, false] rfl rfl (by kernel_rfl) (fun _ _ _ h => h) (Or.inl ⟨by rfl, ?_⟩) hHeld ?_ ?_
   rotate_left
   ·rintro w' ⟨s0, s1, s2, s3⟩
    go_simp
    with_reducible rfl
   rotate_left
   ·simp only [Act.put, List.setIfInBounds_toArray, List.set_cons_zero, List.set_cons_succ, i64_w, i32_w]
    rfl
   refine pure_ (i := 9) (N := some 24) (v := ?_) (a' := ?_) #[true, true, true, true, true, true, true, true, true, true, false, false, false, false] rfl rfl (by kernel_rfl) (fun _ _ _ h => h) (Or.inl ⟨by rfl, ?_⟩) ?_ ?_
   rotate_left
   ·intro w'
    go_simp
    with_reducible rfl
   rotate_left
   ·simp only [Act.put, List.setIfInBounds_toArray, List.set_cons_zero, List.set_cons_succ, i64_w, i32_w]
    rfl
   refine take_ (i := 10) (N := some 25) (v := ?_) (a' := ?_) #[true, true, true, true, true, true, true, true, true, true, true, false, false, false] rfl rfl (by kernel_rfl) (fun _ _ _ h => h) (Or.inl ⟨by rfl, ?_⟩) hHeld ?_ ?_
   rotate_left
   ·rintro w' ⟨s0, s1, s2, s3⟩
    go_simp
    with_reducible rfl
   rotate_left
   ·simp only [Act.put, List.setIfInBounds_toArray, List.set_cons_zero, List.set_cons_succ, i64_w, i32_w]
    rfl
   refine one_ (i := 11) (N := some 26) #[true, true, true, true, true, true, true, true, true, true, true, true, false, false] rfl rfl (by kernel_rfl) (by decide) (fun K hK => ?_)
   refine value_ (w1 := wd.alloc (.cells #[.int .i64 x1] 3)) (v := .slice (some ⟨wd.heap.size, 0, none⟩) 1 1) (by rfl) rfl ?_ ?_
   ·first | (go_simp; done) | (go_simp; rfl)
   refine hK.out _ _ ⟨(blk_cell (blk_alloc HI.out.2.2.2.2.2.2.1 _) 0).trans rfl, (blk_cell (blk_alloc BK5.out _) 0).trans rfl, (blk_cell (blk_alloc BK5.out _) 1).trans rfl, HRUN.out _ (PInv_map1_alloc HI.out _)⟩ (fun hHeld => ?_)
   clear hK K
   refine norm_ (a' := ?_) ?_ ?_
   rotate_left
   ·show Act.put _ (some 26) _ = _
    simp only [Act.put, List.setIfInBounds_toArray, List.set_cons_zero, List.set_cons_succ, i64_w, i32_w]
    rfl
   refine one_ (i := 12) (N := some 27) #[true, true, true, true, true, true, true, true, true, true, true, true, true, false] rfl rfl (by kernel_rfl) (by decide) (fun K hK => ?_)
   refine Kd.R_append_step (Kd.int .i64) (w0 := wd) (W := wd) (w.heap.size + 2) (by rfl) (.tmp 23) (.tmp 26) 23 3 (.int .i64 0) 8 rfl Try.underlying23 info3 rfl (by decide) (by omega) v (selE (·.f0) (·.f1) (l.take j) x0) x1 [.int .i64 x1] (fun k_ => P1 k_ ∨ wd.heap.size ≤ k_) (fun _ => False) rfl rfl ?aP (fun _ hk => hk.elim) (fun _ hk => .inr hk) ?aO ?aB ?aS ?aL ?_
   (case aP => rfl)
   (case aB => exact Below.refl _ _)
   (case aO => exact Kd.R_mono HV.out (fun _ h => .inl h))
   (case aS => have := HI.out.2.2.2.2.2.2.2.2; omega)
   (case aL => have := HFL.out; have := HJ.out; have := HL.out; omega)
   intro v6 w6 ho hb hg hat_
   have hrow := Kd.R_bound ho
   have hvP := HV.out.1
   obtain ⟨w7, hrun7, hG, hg7⟩ := HBK.out w6 v6 x1 (fun k_ => (P1 k_ ∨ wd.heap.size ≤ k_) ∧ k_ < w6.heap.size) hg (Kd.R_mono hrow (fun k hk => ⟨hk.1, hk.2.2.1⟩)) HX1.out (fun k hk => ⟨.inl hk, Nat.lt_of_lt_of_le ((PInv_lt1 HI.out) k hk).2 hg.size⟩) hat_
   have n0_ := Aside0.mk (PInv_step1 HI.out hg hvP hG hg7)
   have B3 := blk_grown HI.out.2.2.2.2.2.2.1 hg (PInv_off1 HI.out hvP (.inl (by omega)))
   have B5 := blk_grown BK5.out hg (fun e_ => Kd.R_ne HV.out BK5.out (by decide) e_)
   have n1_ := Aside0.mk (blk_grown B5 hg7 (fun e_ => by have := Option.some.inj e_; have := HG5.out; omega))
   have hlk := HRUN.out w6 (hg.block _ (PInv_maplt1 HI.out) (PInv_off1 HI.out hvP (.inr (by omega))))
   clear hrow hvP ho hb hg hat_ hG hg7 HV HRUN HBK HFL HI BK5
   refine hK.out _ _ ⟨(blk_cell B3 0).trans rfl, (blk_cell B5 0).trans rfl, (blk_cell B5 1).trans rfl, hlk⟩ (fun hHeld => ?_)
   clear hK K B3 B5 hlk
   refine norm_ (a' := ?_) ?_ ?_
   rotate_left
   ·show Act.put _ (some 27) _ = _
    simp only [Act.put, List.setIfInBounds_toArray, List.set_cons_zero, List.set_cons_succ, i64_w, i32_w]
    rfl
   refine last_ (i := 13) (N := none) #[true, true, true, true, true, true, true, true, true, true, true, true, true, true] rfl rfl (by kernel_rfl) (by decide) (fun K hK => ?_)
   refine skip_ (w1 := w7) (by rfl) rfl ?_ ?_
   ·first | (go_simp; done) | (go_simp; rfl)
   refine hK.out _ _ ?_
   clear hK K hrun7 hHeld
   have HI := n0_
   have BK5 := n1_
   clear n0_ n1_
   refine done_ (by kernel_rfl) ?_
   generalize w7 = wc at HI BK5 ⊢
   go_wp2
   -- region 6
   obtain ⟨v, hrun, hRv, hfl, hback⟩ := (PInv_at2 HI.out HJ.out HX1.out)
   have HV := Aside0.mk hRv
   have HBK := Aside0.mk hback
   have HFL := Aside0.mk hfl
   have HRUN := Aside0.mk hrun
   clear hrun hRv hback hfl
   refine start_ (n := 14) (S := fun w' => w'.cell? ⟨w.heap.size + 1 + 1 + 1, 1, none⟩ = some (.map (some (w.heap.size + 1 + 1))) ∧ w'.cell? ⟨g5, 0, none⟩ = some (.int .i64 x0) ∧ w'.cell? ⟨g5, 1, none⟩ = some (.int .i64 x1) ∧ (Instr.lookup 63 (.map (some (w.heap.size + 1 + 1))) (.int .i64 x1) false).run Try.prog w' = .ok v w') (ds := [13]) #[false, false, false, false, false, false, false, false, false, false, false, false, false, false] (by kernel_rfl) rfl rfl ⟨(blk_cell HI.out.2.2.2.2.2.2.1 1).trans rfl, (blk_cell BK5.out 0).trans rfl, (blk_cell BK5.out 1).trans rfl, HRUN.out _ rfl⟩ (fun hHeld => ?_)
   have n0_ := Aside0.mk (PInv_none HI.out (World.grownBy_drew _))
   have n1_ := Aside0.mk (blk_drew BK5.out)
   have n2_ := Aside0.mk (show Kd.R (Kd.int .i64) 3 wc.drew (w.heap.size + 3) P2 v (selE (·.f1) (·.f0) (l.take j) x1) from Kd.R_drew HV.out)
   have n3_ := Aside0.mk (show ∀ W : World, W.heap[(w.heap.size + 1 + 1)]? = wc.drew.heap[(w.heap.size + 1 + 1)]? → (Instr.lookup 63 (.map (some (w.heap.size + 1 + 1))) (.int .i64 x1) false).run Try.prog W = .ok v W from HRUN.out)
   have n4_ := Aside0.mk (show PBack (w.heap.size + 1 + 1) (w.heap.size + 3) wc.drew v (selE (·.f1) (·.f0) (l.take j)) P2 j x1 from fun w1 v1 y P0 hg => HBK.out w1 v1 y P0 ⟨hg.os, hg.tape, hg.output, hg.size, hg.block⟩)
   clear HI BK5 HV HRUN HBK
   have HI := n0_
   have BK5 := n1_
   have HV := n2_
   have HRUN := n3_
   have HBK := n4_
   clear n0_ n1_ n2_ n3_ n4_
   generalize wc.drew = wd at HI BK5 HV HRUN HBK hHeld ⊢
   refine pure_ (i := 0) (N := some 28) (v := ?_) (a' := ?_) #[true, false, false, false, false, false, false, false, false, false, false, false, false, false] rfl rfl (by kernel_rfl) (fun _ _ _ h => h) (Or.inl ⟨by rfl, ?_⟩) ?_ ?_
   rotate_left
   ·intro w'
    go_simp
    with_reducible rfl
   rotate_left
   ·simp only [Act.put, List.setIfInBounds_toArray, List.set_cons_zero, List.set_cons_succ, i64_w, i32_w]
    rfl
   refine take_ (i := 1) (N := some 29) (v := ?_) (a' := ?_) #[true, true, false, false, false, false, false, false, false, false, false, false, false, false] rfl rfl (by kernel_rfl) (fun _ _ _ h => h) (Or.inl ⟨by rfl, ?_⟩) hHeld ?_ ?_
   rotate_left
   ·rintro w' ⟨s0, s1, s2, s3⟩
    go_simp
    with_reducible rfl
   rotate_left
   ·simp only [Act.put, List.setIfInBounds_toArray, List.set_cons_zero, List.set_cons_succ, i64_w, i32_w]
    rfl
   refine pure_ (i := 2) (N := some 30) (v := ?_) (a' := ?_) #[true, true, true, false, false, false, false, false, false, false, false, false, false, false] rfl rfl (by kernel_rfl) (fun _ _ _ h => h) (Or.inl ⟨by rfl, ?_⟩) ?_ ?_
   rotate_left
   ·intro w'
    go_simp
    with_reducible rfl
   rotate_left
   ·simp only [Act.put, List.setIfInBounds_toArray, List.set_cons_zero, List.set_cons_succ, i64_w, i32_w]
    rfl
   refine take_ (i := 3) (N := some 31) (v := ?_) (a' := ?_) #[true, true, true, true, false, false, false, false, false, false, false, false, false, false] rfl rfl (by kernel_rfl) (fun _ _ _ h => h) (Or.inl ⟨by rfl, ?_⟩) hHeld ?_ ?_
   rotate_left
   ·rintro w' ⟨s0, s1, s2, s3⟩
    go_simp
    with_reducible rfl
   rotate_left
   ·simp only [Act.put, List.setIfInBounds_toArray, List.set_cons_zero, List.set_cons_succ, i64_w, i32_w]
    rfl
   refine pure_ (i := 4) (N := some 32) (v := ?_) (a' := ?_) #[true, true, true, true, true, false, false, false, false, false, false, false, false, false] rfl rfl (by kernel_rfl) (fun _ _ _ h => h) (Or.inl ⟨by rfl, ?_⟩) ?_ ?_
   rotate_left
   ·intro w'
    go_simp
    with_reducible rfl
   rotate_left
   ·simp only [Act.put, List.setIfInBounds_toArray, List.set_cons_zero, List.set_cons_succ, i64_w, i32_w]
    rfl
   refine take_ (i := 5) (N := some 33) (v := ?_) (a' := ?_) #[true, true, true, true, true, true, false, false, false, false, false, false, false, false] rfl rfl (by kernel_rfl) (fun _ _ _ h => h) (Or.inl ⟨by rfl, ?_⟩) hHeld ?_ ?_
   rotate_left
   ·rintro w' ⟨s0, s1, s2, s3⟩
    go_simp
    with_reducible rfl
   rotate_left
   ·simp only [Act.put, List.setIfInBounds_toArray, List.set_cons_zero, List.set_cons_succ, i64_w, i32_w]
    rfl
   refine pure_ (i := 6) (N := some 34) (v := ?_) (a' := ?_) #[true, true, true, true, true, true, true, false, false, false, false, false, false, false] rfl rfl (by kernel_rfl) (fun _ _ _ h => h) (Or.inl ⟨by rfl, ?_⟩) ?_ ?_
   rotate_left
   ·intro w'
    go_simp
    with_reducible rfl
   rotate_left
   ·simp only [Act.put, List.setIfInBounds_toArray, List.set_cons_zero, List.set_cons_succ, i64_w, i32_w]
    rfl
   refine take_ (i := 7) (N := some 35) (v := ?_) (a' := ?_) #[true, true, true, true, true, true, true, true, false, false, false, false, false, false] rfl rfl (by kernel_rfl) (fun _ _ _ h => h) (Or.inl ⟨by rfl, ?_⟩) hHeld ?_ ?_
   rotate_left
   ·rintro w' ⟨s0, s1, s2, s3⟩
    go_simp
    with_reducible rfl
   rotate_left
   ·simp only [Act.put, List.setIfInBounds_toArray, List.set_cons_zero, List.set_cons_succ, i64_w, i32_w]
    rfl
   refine take_ (i := 8) (N := some 36) (v := ?_) (a' := ?_) #[true, true, true, true, true, true, true, true, true, false, false, false, false, false] rfl rfl (by kernel_rfl) (fun _ _ _ h => h) (Or.inl ⟨by rfl, ?_⟩) hHeld ?_ ?_
   rotate_left
   ·rintro w' ⟨s0, s1, s2, s3⟩
    go_simp
    with_reducible rfl
   rotate_left
   ·simp only [Act.put, List.setIfInBounds_toArray, List.set_cons_zero, List.set_cons_succ, i64_w, i32_w]
    rfl
   refine pure_ (i := 9) (N := some 37) (v := ?_) (a' := ?_) #[true, true, true, true, true, true, true, true, true, true, false, false, false, false] rfl rfl (by kernel_rfl) (fun _ _ _ h => h) (Or.inl ⟨by rfl, ?_⟩) ?_ ?_
   rotate_left
   ·intro w'
    go_simp
    with_reducible rfl
   rotate_left
   ·simp only [Act.put, List.setIfInBounds_toArray, List.set_cons_zero, List.set_cons_succ, i64_w, i32_w]
    rfl
   refine take_ (i := 10) (N := some 38) (v := ?_) (a' := ?_) #[true, true, true, true, true, true, true, true, true, true, true, false, false, false] rfl rfl (by kernel_rfl) (fun _ _ _ h => h) (Or.inl ⟨by rfl, ?_⟩) hHeld ?_ ?_
   rotate_left
   ·rintro w' ⟨s0, s1, s2, s3⟩
    go_simp
    with_reducible rfl
   rotate_left
   ·simp only [Act.put, List.setIfInBounds_toArray, List.set_cons_zero, List.set_cons_succ, i64_w, i32_w]
    rfl
   refine one_ (i := 11) (N := some 39) #[true, true, true, true, true, true, true, true, true, true, true, true, false, false] rfl rfl (by kernel_rfl) (by decide) (fun K hK => ?_)
   refine value_ (w1 := wd.alloc (.cells #[.int .i64 x0] 3)) (v := .slice (some ⟨wd.heap.size, 0, none⟩) 1 1) (by rfl) rfl ?_ ?_
   ·first | (go_simp; done) | (go_simp; rfl)
   refine hK.out _ _ ⟨(blk_cell (blk_alloc HI.out.2.2.2.2.2.2.1 _) 1).trans rfl, (blk_cell (blk_alloc BK5.out _) 0).trans rfl, (blk_cell (blk_alloc BK5.out _) 1).trans rfl, HRUN.out _ (PInv_map2_alloc HI.out _)⟩ (fun hHeld => ?_)
   clear hK K
   refine norm_ (a' := ?_) ?_ ?_
   rotate_left
   ·show Act.put _ (some 39) _ = _
    simp only [Act.put, List.setIfInBounds_toArray, List.set_cons_zero, List.set_cons_succ, i64_w, i32_w]
    rfl
   refine one_ (i := 12) (N := some 40) #[true, true, true, true, true, true, true, true, true, true, true, true, true, false] rfl rfl (by kernel_rfl) (by decide) (fun K hK => ?_)
   refine Kd.R_append_step (Kd.int .i64) (w0 := wd) (W := wd) (w.heap.size + 3) (by rfl) (.tmp 36) (.tmp 39) 23 3 (.int .i64 0) 8 rfl Try.underlying23 info3 rfl (by decide) (by omega) v (selE (·.f1) (·.f0) (l.take j) x1) x0 [.int .i64 x0] (fun k_ => P2 k_ ∨ wd.heap.size ≤ k_) (fun _ => False) rfl rfl ?aP (fun _ hk => hk.elim) (fun _ hk => .inr hk) ?aO ?aB ?aS ?aL ?_
   (case aP => rfl)
   (case aB => exact Below.refl _ _)
   (case aO => exact Kd.R_mono HV.out (fun _ h => .inl h))
   (case aS => have := HI.out.2.2.2.2.2.2.2.2; omega)
   (case aL => have := HFL.out; have := HJ.out; have := HL.out; omega)
   intro v6 w6 ho hb hg hat_
   have hrow := Kd.R_bound ho
   have hvP := HV.out.1
   obtain ⟨w7, hrun7, hG, hg7⟩ := HBK.out w6 v6 x0 (fun k_ => (P2 k_ ∨ wd.heap.size ≤ k_) ∧ k_ < w6.heap.size) hg (Kd.R_mono hrow (fun k hk => ⟨hk.1, hk.2.2.1⟩)) HX0.out (fun k hk => ⟨.inl hk, Nat.lt_of_lt_of_le ((PInv_lt2 HI.out) k hk).2 hg.size⟩) hat_
   have n0_ := Aside0.mk (PInv_step2 HI.out hg hvP hG hg7)
   have B3 := blk_grown HI.out.2.2.2.2.2.2.1 hg (PInv_off2 HI.out hvP (.inl (by omega)))
   have B5 := blk_grown BK5.out hg (fun e_ => Kd.R_ne HV.out BK5.out (by decide) e_)
   have n1_ := Aside0.mk (blk_grown B5 hg7 (fun e_ => by have := Option.some.inj e_; have := HG5.out; omega))
   have hlk := HRUN.out w6 (hg.block _ (PInv_maplt2 HI.out) (PInv_off2 HI.out hvP (.inr (by omega))))
   clear hrow hvP ho hb hg hat_ hG hg7 HV HRUN HBK HFL HI BK5
   refine hK.out _ _ ⟨(blk_cell B3 1).trans rfl, (blk_cell B5 0).trans rfl, (blk_cell B5 1).trans rfl, hlk⟩ (fun hHeld => ?_)
   clear hK K B3 B5 hlk
   refine norm_ (a' := ?_) ?_ ?_
   rotate_left
   ·show Act.put _ (some 40) _ = _
    simp only [Act.put, List.setIfInBounds_toArray, List.set_cons_zero, List.set_cons_succ, i64_w, i32_w]
    rfl
   refine last_ (i := 13) (N := none) #[true, true, true, true, true, true, true, true, true, true, true, true, true, true] rfl rfl (by kernel_rfl) (by decide) (fun K hK => ?_)
   refine skip_ (w1 := w7) (by rfl) rfl ?_ ?_
   ·first | (go_simp; done) | (go_simp; rfl)
   refine hK.out _ _ ?_
   clear hK K hrun7 hHeld
   have HI := n0_
   have BK5 := n1_
   clear n0_ n1_
   refine done_ (by kernel_rfl) ?_
   generalize w7 = wc at HI BK5 ⊢
   go_wp2
   refine ⟨⟨j + 1, jv + 1, ?Pa, ?Pb, by have := Hlt.out; omega, by have := Hjv.out; omega, rfl, ⟨?hh⟩⟩, ?ms⟩
   case hh =>
    rw [HTK.out, selE_snoc, selE_snoc]
    exact HI.out
   case ms =>
    show l.length - (jv + 1).toNat < l.length - jv.toNat
    have := Hjv.out
    have := Hlt.out
    omega
/-! #### spread: what is reached from some numbers, not by way of what was there -/
/-- The least set that has whatever is ahead of it, or of the numbers of fr, and was not in M. -/
def Rch (F : Int → List Int) (M : Int → Prop) (fr : List Int) (x : Int) : Prop := ∀ S : Int → Prop, (∀ a y, (a ∈ fr ∨ S a) → y ∈ F a → ¬ M y → S y) → S x
theorem Rch.go {F : Int → List Int} {M : Int → Prop} {fr : List Int} {a y : Int} (h : a ∈ fr ∨ Rch F M fr a) (hy : y ∈ F a) (hm : ¬ M y) : Rch F M fr y := fun S hS =>
 hS a y (h.imp id (fun h => h S hS)) hy hm
def SInv (F : Int → List Int) (M : Int → Prop) (fr U st C : List Int) : Prop :=
 C.Nodup ∧ (∀ x ∈ C, x ∈ U ∧ ¬ M x ∧ Rch F M fr x) ∧ (∀ a ∈ st, a ∈ fr ∨ a ∈ C) ∧ (∀ a, (a ∈ fr ∨ a ∈ C) → a ∈ st ∨ ∀ x ∈ F a, M x ∨ x ∈ C) ∧ st.length ≤ fr.length + C.length
def SInv2 (F : Int → List Int) (M : Int → Prop) (fr U : List Int) (a : Int) (j : Nat) (st C : List Int) : Prop :=
 C.Nodup ∧ (∀ x ∈ C, x ∈ U ∧ ¬ M x ∧ Rch F M fr x) ∧ (∀ a ∈ st, a ∈ fr ∨ a ∈ C) ∧ (∀ b, (b ∈ fr ∨ b ∈ C) → b ∈ st ∨ b = a ∨ ∀ x ∈ F b, M x ∨ x ∈ C) ∧ (∀ x ∈ (F a).take j, M x ∨ x ∈ C) ∧ (a ∈ fr ∨ a ∈ C) ∧ st.length + 1 ≤ fr.length + C.length
section
variable {F : Int → List Int} {M : Int → Prop} {fr U st C : List Int} {a x : Int} {j : Nat}
theorem SInv.start (F : Int → List Int) (M : Int → Prop) (fr U : List Int) : SInv F M fr U fr [] :=
 ⟨List.nodup_nil, (fun x h => by cases h), fun a h => .inl h, (fun a h => .inl (h.elim id (fun h => by cases h))), by simp⟩
theorem SInv.pop (h : SInv F M fr U (st ++ [a]) C) : SInv2 F M fr U a 0 st C := by
 obtain ⟨h1, h2, h3, h4, h5⟩ := h
 refine ⟨h1, h2, fun b hb => h3 b (by simp [hb]), fun b hb => ?_, fun x hx => by simp at hx, h3 a (by simp), by simpa [Nat.add_comm] using h5⟩
 rcases h4 b hb with h | h
 ·rcases List.mem_append.1 h with h | h
  ·exact .inl h
  ·exact .inr (.inl (by simpa using h))
 ·exact .inr (.inr h)
theorem SInv2.skip (h : SInv2 F M fr U a j st C) (hj : (F a)[j]? = some x) (hx : M x ∨ x ∈ C) : SInv2 F M fr U a (j + 1) st C := by
 obtain ⟨h1, h2, h3, h4, h5, h6, h7⟩ := h
 refine ⟨h1, h2, h3, h4, fun y hy => ?_, h6, h7⟩
 rw [List.take_add_one, hj] at hy
 rcases List.mem_append.1 hy with hy | hy
 ·exact h5 y hy
 ·rw [show y = x by simpa using hy]; exact hx
theorem SInv2.push (h : SInv2 F M fr U a j st C) (hj : (F a)[j]? = some x) (hm : ¬ M x) (hc : x ∉ C) (hu : x ∈ U) : SInv2 F M fr U a (j + 1) (st ++ [x]) (C ++ [x]) := by
 obtain ⟨h1, h2, h3, h4, h5, h6, h7⟩ := h
 have hxF : x ∈ F a := List.mem_of_getElem? hj
 have hr : Rch F M fr x := Rch.go (h6.imp id (fun h => (h2 a h).2.2)) hxF hm
 refine ⟨List.nodup_append.2 ⟨h1, by simp, fun y hy z hz e => hc (by rw [List.mem_singleton] at hz; rw [← hz, ← e]; exact hy)⟩, fun y hy => ?_, fun b hb => ?_, fun b hb => ?_, fun y hy => ?_, h6.imp id (fun h => by simp [h]), by simp; omega⟩
 ·rcases List.mem_append.1 hy with hy | hy
  ·exact h2 y hy
  ·rw [show y = x by simpa using hy]; exact ⟨hu, hm, hr⟩
 ·rcases List.mem_append.1 hb with hb | hb
  ·exact (h3 b hb).imp id (fun h => by simp [h])
  ·exact .inr (by simp at hb; simp [hb])
 ·by_cases hbx : b = x
  ·exact .inl (by simp [hbx])
  ·rcases h4 b (hb.imp id (fun h => by rcases List.mem_append.1 h with h | h; exact h; exact absurd (by simpa using h) hbx)) with h | h | h
   ·exact .inl (by simp [h])
   ·exact .inr (.inl h)
   ·exact .inr (.inr (fun y hy => (h y hy).imp id (fun h => by simp [h])))
 ·rw [List.take_add_one, hj] at hy
  rcases List.mem_append.1 hy with hy | hy
  ·exact (h5 y hy).imp id (fun h => by simp [h])
  ·exact .inr (by rw [show y = x by simpa using hy]; simp)
theorem SInv2.done (h : SInv2 F M fr U a (F a).length st C) : SInv F M fr U st C := by
 obtain ⟨h1, h2, h3, h4, h5, h6, h7⟩ := h
 rw [List.take_length] at h5
 refine ⟨h1, h2, h3, fun b hb => ?_, by omega⟩
 rcases h4 b hb with h | h | h
 ·exact .inl h
 ·subst h; exact .inr h5
 ·exact .inr h
theorem SInv.fin (h : SInv F M fr U [] C) (x : Int) : x ∈ C ↔ Rch F M fr x := by
 obtain ⟨h1, h2, h3, h4, h5⟩ := h
 refine ⟨fun hx => (h2 x hx).2.2, fun hx => hx (· ∈ C) (fun a y ha hy hm => ?_)⟩
 rcases h4 a ha with h | h
 ·cases h
 ·exact (h y hy).resolve_left hm
theorem nodup_le : ∀ {l U : List Int}, l.Nodup → (∀ x ∈ l, x ∈ U) → l.length ≤ U.length
 | [], _, _, _ => Nat.zero_le _
 | x :: l, U, hn, hs => by
  obtain ⟨h1, h2⟩ := List.nodup_cons.1 hn
  have hx := hs x (by simp)
  have ih := nodup_le (l := l) (U := U.erase x) h2 (fun y hy => by
   have hyx : y ≠ x := fun e => h1 (e ▸ hy)
   exact (List.mem_erase_of_ne hyx).2 (hs y (by simp [hy])))
  rw [List.length_erase_of_mem hx] at ih
  have := List.length_pos_of_mem hx
  simp only [List.length_cons]
  omega
theorem SInv.le (h : SInv F M fr U st C) : C.length ≤ U.length := nodup_le h.1 (fun x hx => (h.2.1 x hx).1)
theorem SInv2.le (h : SInv2 F M fr U a j st C) : C.length ≤ U.length := nodup_le h.1 (fun x hx => (h.2.1 x hx).1)
theorem SInv2.le_push (h : SInv2 F M fr U a j st C) (hc : x ∉ C) (hu : x ∈ U) : C.length + 1 ≤ U.length := by
 have := nodup_le (l := x :: C) (U := U) (List.nodup_cons.2 ⟨hc, h.1⟩) (fun y hy => by
  rcases List.mem_cons.1 hy with rfl | hy
  ·exact hu
  ·exact (h.2.1 y hy).1)
 simpa using this
theorem SetM_offR {w : World} {b n : Nat} (h : SetM w b n M) {α : Type} {d : Kd α} {e base : Nat} {ok : Nat → Prop} {v : Value} {xs : List α} (hr : Kd.R d e w base ok v xs) : some b ≠ v.ownBlock := fun e_ => by
 obtain ⟨_, _, _, q, _, cells, hc⟩ := (Kd.R_bound hr).1 b e_.symm
 exact SetM_ne h hc rfl
theorem R_offSet {w w' : World} {b n : Nat} (h : SetM w b n M) {α : Type} {d : Kd α} {e base : Nat} {ok : Nat → Prop} {v : Value} {xs : List α} (hr : Kd.R d e w base ok v xs) (hg : w.grownBy w' (some b)) : Kd.R d e w' base ok v xs :=
 Kd.R_mono (Kd.R_grown (Kd.R_mono (ok' := fun k => ok k ∧ k ≠ b) (Kd.R_bound hr) (fun k hk => ⟨hk.1, fun e_ => by obtain ⟨_, _, _, q, _, cells, hc⟩ := hk; exact SetM_ne h hc e_.symm⟩)) hg (fun k hk e_ => hk.2 (Option.some.inj e_))) (fun k hk => hk.1)
end
/-- Between two steps of spread. -/
def WInv (w0 w wr : World) (nb bb bl bc g3 nS lo hi : Nat) (F : Int → List Int) (M : Int → Prop) (Pv : Nat → Prop) (v : Value) (st C : List Int) : Prop :=
 SetM wr bl (nS + C.length) (fun x => M x ∨ x ∈ C) ∧ SetM wr bc C.length (fun x => x ∈ C) ∧ Kd.R (Kd.int .i64) 3 wr w0.heap.size (fun k => Pv k ∨ w.heap.size ≤ k) v st ∧
  wr.heap[g3]? = some (.cells #[.map (some nb), .map (some bb)] 65 (0, 0)) ∧ Below w0.heap.size w0 wr ∧ Kept w wr (fun k => k = bl ∨ Pv k) ∧ w.heap.size ≤ bc ∧ bc ≠ bl ∧ w0.heap.size ≤ bl ∧ w0.heap.size ≤ w.heap.size
section
variable {w0 w wr w' : World} {nb bb bl bc g3 nS lo hi : Nat} {F : Int → List Int} {M : Int → Prop} {Pv : Nat → Prop} {v v' : Value} {st st' C : List Int} {x : Int}
theorem WInv_below (h : WInv w0 w wr nb bb bl bc g3 nS lo hi F M Pv v st C) (hb : Below wr.heap.size wr w') : WInv w0 w w' nb bb bl bc g3 nS lo hi F M Pv v st C := by
 obtain ⟨h1, h2, h3, h4, h5, h6, h7, h8, h9, h10⟩ := h
 exact ⟨SetM_below h1 hb, SetM_below h2 hb, Kd.R_below h3 hb, blk_below h4 hb, below_step h5 hb, Kept.below h6 hb, h7, h8, h9, h10⟩
theorem WInv_live (h : WInv w0 w wr nb bb bl bc g3 nS lo hi F M Pv v st C) (hg : wr.grownBy w' (some bl)) (hs : SetM w' bl (nS + C.length + 1) (fun y => (M y ∨ y ∈ C) ∨ y = x)) :
  SetM w' bl (nS + C.length + 1) (fun y => (M y ∨ y ∈ C) ∨ y = x) ∧ SetM w' bc C.length (fun x => x ∈ C) ∧ Kd.R (Kd.int .i64) 3 w' w0.heap.size (fun k => Pv k ∨ w.heap.size ≤ k) v st ∧
  w'.heap[g3]? = some (.cells #[.map (some nb), .map (some bb)] 65 (0, 0)) ∧ Below w0.heap.size w0 w' ∧ Kept w w' (fun k => k = bl ∨ Pv k) ∧ w.heap.size ≤ bc ∧ bc ≠ bl ∧ w0.heap.size ≤ bl ∧ w0.heap.size ≤ w.heap.size := by
 obtain ⟨h1, h2, h3, h4, h5, h6, h7, h8, h9, h10⟩ := h
 exact ⟨hs, SetM_grown h2 hg (fun e => h8 (Option.some.inj e)), R_offSet h1 h3 hg, blk_grown h4 hg (fun e => SetM_ne h1 h4 (Option.some.inj e).symm), Below.grown h5 hg (below_size h5) (fun k hk => by cases hk; exact h9), Kept.of_grown hg h6 (fun k hk => by cases hk; exact .inl (.inl rfl)), h7, h8, h9, h10⟩
theorem WInv_came (h : SetM wr bl (nS + C.length + 1) (fun y => (M y ∨ y ∈ C) ∨ y = x) ∧ SetM wr bc C.length (fun x => x ∈ C) ∧ Kd.R (Kd.int .i64) 3 wr w0.heap.size (fun k => Pv k ∨ w.heap.size ≤ k) v st ∧
  wr.heap[g3]? = some (.cells #[.map (some nb), .map (some bb)] 65 (0, 0)) ∧ Below w0.heap.size w0 wr ∧ Kept w wr (fun k => k = bl ∨ Pv k) ∧ w.heap.size ≤ bc ∧ bc ≠ bl ∧ w0.heap.size ≤ bl ∧ w0.heap.size ≤ w.heap.size)
  (hg : wr.grownBy w' (some bc)) (hs : SetM w' bc (C.length + 1) (fun y => y ∈ C ∨ y = x)) : WInv w0 w w' nb bb bl bc g3 nS lo hi F M Pv v st (C ++ [x]) := by
 obtain ⟨h1, h2, h3, h4, h5, h6, h7, h8, h9, h10⟩ := h
 have h1' := SetM_grown h1 hg (fun e => h8 (Option.some.inj e).symm)
 refine ⟨?_, ?_, R_offSet h2 h3 hg, blk_grown h4 hg (fun e => SetM_ne h2 h4 (Option.some.inj e).symm), Below.grown h5 hg (below_size h5) (fun k hk => by cases hk; omega), Kept.of_grown hg h6 (fun k hk => by cases hk; exact .inr h7), h7, h8, h9, h10⟩
 ·rw [List.length_append]
  exact SetM_iff h1' (fun y => by simp only [List.mem_append, List.mem_singleton, or_assoc])
 ·rw [List.length_append]
  exact SetM_iff hs (fun y => by simp only [List.mem_append, List.mem_singleton])
theorem WInv_row (h : WInv w0 w wr nb bb bl bc g3 nS lo hi F M Pv v st C) (hg : wr.grownBy w' v.ownBlock) (hb : Below w0.heap.size w0 w') (ho : Kd.R (Kd.int .i64) 3 w' w0.heap.size (fun k => Pv k ∨ w.heap.size ≤ k) v' st') : WInv w0 w w' nb bb bl bc g3 nS lo hi F M Pv v' st' C := by
 obtain ⟨h1, h2, h3, h4, h5, h6, h7, h8, h9, h10⟩ := h
 exact ⟨SetM_grown h1 hg (SetM_offR h1 h3), SetM_grown h2 hg (SetM_offR h2 h3), ho, blk_grown h4 hg (Kd.R_ne h3 h4 (by decide)), hb, Kept.of_grown hg h6 (fun k hk => (h3.1 k hk).imp .inr id), h7, h8, h9, h10⟩
theorem WInv_next (h : WInv w0 w wr nb bb bl bc g3 nS lo hi F M Pv v st C) {b : Nat} (hN : NextOK w lo hi b F) (hhi : hi ≤ w.heap.size) (hbl : ¬ (lo ≤ bl ∧ bl < hi)) (hPv : ∀ k, Pv k → ¬ (lo ≤ k ∧ k < hi)) : ∀ k, lo ≤ k → k < hi → wr.heap[k]? = w.heap[k]? :=
 fun k h1 h2 => h.2.2.2.2.2.1.2 k (by omega) (fun hk => by
  rcases hk with rfl | hk
  ·exact hbl ⟨h1, h2⟩
  ·exact hPv k hk ⟨h1, h2⟩)
end
theorem WInv_re {w0 w wr : World} {nb bb bl bc g3 nS lo hi : Nat} {F : Int → List Int} {M : Int → Prop} {Pv : Nat → Prop} {v v' : Value} {st st' C : List Int} (h : WInv w0 w wr nb bb bl bc g3 nS lo hi F M Pv v st C) (ho : Kd.R (Kd.int .i64) 3 wr w0.heap.size (fun k => Pv k ∨ w.heap.size ≤ k) v' st') : WInv w0 w wr nb bb bl bc g3 nS lo hi F M Pv v' st' C := ⟨h.1, h.2.1, ho, h.2.2.2⟩
set_option maxRecDepth 100000 in
set_option maxHeartbeats 4000000 in
theorem spread_calls (w0 : World) (nb bb lo hi bl nS : Nat) (F : Int → List Int) (M : Int → Prop) (Pv : Nat → Prop) (v : Value) (fr U : List Int) (w : World)
  (hN : NextOK w lo hi nb F) (hhi : hi ≤ w.heap.size) (hS : SetM w bl nS M) (hbl : ¬ (lo ≤ bl ∧ bl < hi)) (hPv : ∀ k, Pv k → ¬ (lo ≤ k ∧ k < hi)) (hv : Kd.R (Kd.int .i64) 3 w w0.heap.size Pv v fr) (hB : Below w0.heap.size w0 w) (hb0 : w0.heap.size ≤ bl)
  (hfr : ∀ x ∈ fr, wfI x) (hU : ∀ a, ∀ x ∈ F a, x ∈ U) (hUw : ∀ x ∈ U, wfI x) (hFl : ∀ a, (F a).length ≤ 1000000000) (hUl : U.length ≤ 1000000000) (hfl : fr.length ≤ 1000000000) (hnS : nS ≤ 1000000000) :
  Calls Try.prog 36 #[.agg #[.map (some nb), .map (some bb)], .map (some bl), v] w fun e w' => ∃ (bc : Nat) (C : List Int), e = .returned (.map (some bc)) ∧ SetM w' bl (nS + C.length) (fun x => M x ∨ x ∈ C) ∧ SetM w' bc C.length (fun x => x ∈ C) ∧ (∀ x, x ∈ C ↔ Rch F M fr x) ∧ C.length ≤ U.length ∧ w.heap.size ≤ bc ∧ bc ≠ bl ∧
   Below w0.heap.size w0 w' ∧ Kept w w' (fun k => k = bl ∨ Pv k) := by
 have HN := Aside0.mk hN
 have HV := Aside0.mk hv
 have HS := Aside0.mk hS
 have HB := Aside0.mk hB
 have HC := Aside0.mk (And.intro hhi (And.intro hbl (And.intro hPv (And.intro hb0 (And.intro hfr (And.intro hU (And.intro hUl (And.intro hfl (And.intro hnS (And.intro hUw hFl))))))))))
 have hmm := @run_makeMap Try.prog
 have huM := Try.underlying63
 have huW := Try.underlying65
 have huS := Try.underlying57
 clear hN hhi hS hbl hPv hv hB hb0 hfr hU hUl hfl hnS hUw hFl
 go_enter Try.func36, Try.ntmps36
 go_wp2
 clear hmm
 have hst : WInv w0 w ((w.alloc (.cells #[.map (some nb), .map (some bb)] 65)).alloc (.map #[] 0)) nb bb bl (w.heap.size + 1) w.heap.size nS lo hi F M Pv v fr [] := by
  obtain ⟨wa, hwa⟩ : ∃ wa, wa = w.alloc (.cells #[.map (some nb), .map (some bb)] 65) := ⟨_, rfl⟩
  rw [← hwa]
  have sa : wa.heap.size = w.heap.size + 1 := by rw [hwa]; simp
  have hba : Below w.heap.size w wa := by rw [hwa]; exact (Below.refl _ _).alloc (Nat.le_refl _) _
  have hbb : Below wa.heap.size wa (wa.alloc (.map #[] 0)) := (Below.refl _ _).alloc (Nat.le_refl _) _
  have K0 : wa.heap[w.heap.size]? = some (.cells #[.map (some nb), .map (some bb)] 65 (0, 0)) := by rw [hwa]; exact heap_alloc_new w _
  have hlt := SetM_lt HS.out
  refine ⟨SetM_iff (SetM_mono (SetM_below (SetM_below HS.out hba) hbb) (Nat.le_refl _)) (fun x => by simp), ?_, Kd.R_mono (Kd.R_below (Kd.R_below HV.out hba) hbb) (fun k hk => .inl hk), blk_below K0 hbb, below_step (below_step HB.out hba) hbb, Kept.below (Kept.below (Kept.refl _ _) hba) hbb, by omega, by omega, HC.out.2.2.2.1, below_size HB.out⟩
  have h := SetM_new wa
  rw [sa] at h
  exact SetM_iff h (fun x => by simp)
 have HI := Aside0.mk hst
 have HP := Aside0.mk (SInv.start F M fr U)
 clear hst HS HV HB
 go_loopg [2] (2 * U.length + fr.length) (fun kq v2 wr => ∃ (st C : List Int), Aside0 (WInv w0 w wr nb bb bl (w.heap.size + 1) w.heap.size nS lo hi F M Pv v2 st C) ∧ Aside0 (SInv F M fr U st C) ∧ Aside0 (2 * (U.length - C.length) + st.length ≤ kq))
 case atStart => exact ⟨fr, [], HI, HP, ⟨by simp⟩⟩
 case round =>
  clear HI HP
  obtain ⟨st, C, HI, HP, HK⟩ := hrel
  obtain ⟨A, c, hv2⟩ := Kd.R_slice HI.out.2.2.1
  rcases List.eq_nil_or_concat st with rfl | ⟨st', a, rfl⟩
  ·subst hv2
   go_wp2
   go_ret
   obtain ⟨h1, h2, h3, h4, h5, h6, h7, h8, h9, h10⟩ := HI.out
   exact ⟨_, C, rfl, h1, h2, HP.out.fin, HP.out.le, h7, h8, h5, h6⟩
  ·rw [List.concat_eq_append] at HI HP HK hv2
   obtain ⟨m, hm⟩ : ∃ m, m = st'.length + 1 := ⟨_, rfl⟩
   have hlen : (st' ++ [a]).length = m := by rw [hm]; simp
   rw [hlen] at hv2
   subst hv2
   have hbnd := HP.out.2.2.2.2
   have hle := HP.out.le
   have hUl := HC.out.2.2.2.2.2.2.1
   have hfl := HC.out.2.2.2.2.2.2.2.1
   have hm63 : m ≤ 9223372036854775807 := by omega
   have hr3 := HI.out.2.2.1
   obtain ⟨ad, ead, hca⟩ := Kd.at_int (Kd.R_reads' hr3).2.2 ((m : Int) - 1) (by omega) (by omega)
   cases ead
   have hrda : rd (st' ++ [a]) ((m : Int) - 1) = a := by
    have e1 : ((m : Int) - 1).toNat = st'.length := by omega
    simp [rd, e1]
   rw [hrda, show ((m : Int) - 1).toNat = m - 1 by omega] at hca
   have hm1 : 1 ≤ (m : Int) := by omega
   have hm0 : 0 < m := by omega
   have hmm1 : (m : Int) - 1 < (m : Int) := by omega
   have hmm2 : (m : Int) - 1 ≤ (m : Int) := by omega
   have hg0 : 0 ≤ (m : Int) - 1 := by omega
   have hcm := (Kd.R_reads' hr3).2.1
   have hmc : (m : Int) - 1 ≤ (c : Int) := by omega
   have hz0 : wr.cell? ⟨w.heap.size, 0, none⟩ = some (.map (some nb)) := (blk_cell HI.out.2.2.2.1 0).trans rfl
   have hP2 := HP.out.pop
   have hwa : wfI a := by
    rcases hP2.2.2.2.2.2.1 with h | h
    ·exact HC.out.2.2.2.2.1 a h
    ·exact HC.out.2.2.2.2.2.2.2.2.2.1 a (hP2.2.1 a h).1
   obtain ⟨A2, c2, hl2, hwf2, hall⟩ := HN.out a hwa
   obtain ⟨hlk, hC2⟩ := hall wr (WInv_next HI.out HN.out HC.out.1 HC.out.2.1 HC.out.2.2.1)
   have hr4 := Kd.R_take (m := m - 1) hr3 (by omega)
   rw [show (st' ++ [a]).take (m - 1) = st' by rw [hm]; simp] at hr4
   have HR4 := Aside0.mk hr4
   have HALL := Aside0.mk hall
   have HP2 := Aside0.mk hP2
   have hFl : (F a).length ≤ 9223372036854775807 := by have := HC.out.2.2.2.2.2.2.2.2.2.2 a; omega
   have HWF2 := Aside0.mk hwf2
   have Hm := Aside0.mk hm
   have Hlen := Aside0.mk hlen
   have HBn := Aside0.mk (And.intro hbnd (And.intro hle (And.intro hUl hfl)))
   clear hbnd hle hUl hfl hr3 hrda hm hlen hcm hP2 hwa hall hr4 hC2 hwf2
   go_wp2
   have hI2 := WInv_re HI.out HR4.out
   have hK2 : 2 * (U.length - C.length) + st'.length < gk := by have := HK.out; rw [Hlen.out, Hm.out] at this; omega
   have n0_ := Aside0.mk hI2
   have n1_ := Aside0.mk hK2
   clear HI HK HP hI2 hK2 HR4 hca hm1 hm0 hmm1 hmm2 hg0 hmc hz0 hlk
   have HI := n0_
   have HK := n1_
   clear n0_ n1_
   go_loopw [2, 31] (fun v2 v31 wq => ∃ (j : Nat) (jv : Int) (s2 D : List Int), j ≤ (F a).length ∧ jv = (j : Int) ∧ v31 = .int .i64 jv ∧ Aside0 (WInv w0 w wq nb bb bl (w.heap.size + 1) w.heap.size nS lo hi F M Pv v2 s2 D) ∧ Aside0 (SInv2 F M fr U a j s2 D) ∧ Aside0 (2 * (U.length - D.length) + s2.length < gk)) (fun _ v31 _ => (F a).length - (intOf v31).toNat)
   case atStart => exact ⟨0, 0, st', C, by omega, rfl, rfl, HI, HP2, HK⟩
   case round =>
    clear HI HK HP2 HBn
    obtain ⟨j, jv, s2, D, hj, hjv, rfl, HI, HP, HK⟩ := hrel
    obtain ⟨A3, c3, hv3⟩ := Kd.R_slice HI.out.2.2.1
    subst hv3
    by_cases hlt : j < (F a).length
    case neg =>
     have hnl : ¬ (jv < ((F a).length : Int)) := by omega
     obtain rfl : j = (F a).length := by omega
     have Hjv := Aside0.mk hjv
     clear hjv hj hlt
     go_wp2
     go_roundg (2 * (U.length - D.length) + s2.length)
     case measure => exact HK.out
     case rel => exact ⟨s2, D, HI, ⟨HP.out.done⟩, ⟨Nat.le_refl _⟩⟩
    case pos =>
     have p0 : (0 : Int) ≤ jv := by omega
     have q0 : jv < ((F a).length : Int) := by omega
     have hC2 := (HALL.out wr (WInv_next HI.out HN.out HC.out.1 HC.out.2.1 HC.out.2.2.1)).2
     obtain ⟨ad2, ead, hx⟩ := Kd.at_int hC2 jv p0 q0
     subst ead
     have hrd : rd (F a) jv = (F a)[j] := by rw [hjv]; simp [rd, List.getD_eq_getElem?_getD, hlt]
     obtain ⟨x, hxe⟩ : ∃ x, x = (F a)[j] := ⟨_, rfl⟩
     rw [hrd, ← hxe] at hx
     have hget : (F a)[j]? = some x := by rw [hxe]; exact List.getElem?_eq_getElem hlt
     have hxF : x ∈ F a := List.mem_of_getElem? hget
     have HGET := Aside0.mk hget
     have HWX := Aside0.mk (HWF2.out x hxF)
     have HXU := Aside0.mk (HC.out.2.2.2.2.2.1 a x hxF)
     have Hjv := Aside0.mk hjv
     have Hlt := Aside0.mk hlt
     have hDle := HP.out.le
     have hsl := HP.out.2.2.2.2.2.2
     have HBd := Aside0.mk (show D.length ≤ 1000000000 ∧ s2.length ≤ 2000000000 ∧ nS ≤ 1000000000 by have := HC.out.2.2.2.2.2.2.1; have := HC.out.2.2.2.2.2.2.2.1; have := HC.out.2.2.2.2.2.2.2.2.1; omega)
     clear hC2 hrd hxe hget hxF hjv hj hlt hDle hsl
     by_cases hmx : M x ∨ x ∈ D
     case pos =>
      have HMX := Aside0.mk hmx
      clear hmx
      go_wp2_with (first | (go_at_call 32; refine (has_calls bl _ _ x true _ HI.out.1 HWX.out ⟨fun _ => HMX.out, fun _ => rfl⟩).mono ?_; rintro e w1 ⟨rfl, hb⟩; have HI1 := Aside0.mk (WInv_below HI.out hb); clear hb))
      refine ⟨⟨j + 1, jv + 1, s2, D, by have := Hlt.out; omega, by have := Hjv.out; omega, rfl, HI1, ⟨HP.out.skip HGET.out HMX.out⟩, HK⟩, ?_⟩
      show (F a).length - (jv + 1).toNat < (F a).length - jv.toNat
      have := Hjv.out
      have := Hlt.out
      omega
     case neg =>
      have HMX := Aside0.mk hmx
      clear hmx
      go_wp2_with (first
       | (go_at_call 32; refine (has_calls bl _ _ x false _ HI.out.1 HWX.out ⟨(fun h => by cases h), fun h => absurd h HMX.out⟩).mono ?_; rintro e w1 ⟨rfl, hb⟩; have HI1 := Aside0.mk (WInv_below HI.out hb); clear hb HI)
       | (go_at_call 34; have tok := HI1; refine (add_calls bl _ _ x _ HI1.out.1 HWX.out (by have := HBd.out; omega)).mono ?_; rintro e w2 ⟨rfl, hs2, hg2⟩; have HI2 := Aside0.mk (WInv_live HI1.out hg2 hs2); clear hs2 hg2 tok HI1))
      refine (add_calls (w.heap.size + 1) _ _ x _ HI2.out.2.1 HWX.out (by have := HBd.out; omega)).mono ?_
      rintro e w3 ⟨rfl, hs3, hg3⟩
      have HI3 := Aside0.mk (WInv_came (lo := lo) (hi := hi) (F := F) HI2.out hg3 hs3)
      clear hs3 hg3 HI2
      go_wp2_with (first
       | ((with_reducible refine gate_builtin (b := .append) (xs := #[.tmp 45, .tmp 47]) rfl ?_); at_builtin; refine Kd.R_append (Kd.int .i64) (w0 := w0) w0.heap.size rfl (.tmp 45) (.tmp 47) 23 3 (.int .i64 0) 8 rfl Try.underlying23 info3 rfl (by decide) (by omega) _ s2 x [.int .i64 x] (fun k => Pv k ∨ w.heap.size ≤ k) (fun _ => False) rfl rfl ?aP (fun _ hk => hk.elim) ?aF ?aO ?aB ?aS ?aL ?_; (case aP => rfl); (case aB => exact HI3.out.2.2.2.2.1); (case aF => exact (fun k hk => .inr (Nat.le_trans HI3.out.2.2.2.2.2.1.1 hk))); (case aO => exact HI3.out.2.2.1); (case aS => exact below_size HI3.out.2.2.2.2.1); (case aL => have := HBd.out; omega); intro v4 w4 ho hb hg hat_; have HI4 := Aside0.mk (WInv_row HI3.out hg hb ho); clear HI3 ho hb hg hat_))
      have hxM : ¬ M x := fun h => HMX.out (.inl h)
      have hxD : x ∉ D := fun h => HMX.out (.inr h)
      have hlp := HP.out.le_push hxD HXU.out
      refine ⟨⟨j + 1, jv + 1, s2 ++ [x], D ++ [x], by have := Hlt.out; omega, by have := Hjv.out; omega, rfl, HI4, ⟨HP.out.push HGET.out hxM hxD HXU.out⟩, ⟨?_⟩⟩, ?_⟩
      ·have := HK.out
       simp only [List.length_append, List.length_cons, List.length_nil]
       omega
      ·show (F a).length - (jv + 1).toNat < (F a).length - jv.toNat
       have := Hjv.out
       have := Hlt.out
       omega
/-! #### the same, reckoned -/
def spStep (M fr S : List Int) (e : S36) : List Int := if (e.f0 ∈ fr ∨ e.f0 ∈ S) ∧ e.f1 ∉ M ∧ e.f1 ∉ S then S ++ [e.f1] else S
def spPass (M fr : List Int) (l : List S36) (S : List Int) : List Int := l.foldl (spStep M fr) S
def spIter (M fr : List Int) (l : List S36) : Nat → List Int → List Int
 | 0, S => S
 | n + 1, S => spIter M fr l n (spPass M fr l S)
/-- What is reached from fr by edges, not by way of M. -/
def spreadF (l : List S36) (M fr : List Int) : List Int := spIter M fr l (l.length + 1) []
section
variable {M fr S : List Int} {l l2 : List S36} {e : S36}
def NextF (l : List S36) : Int → List Int := selE (·.f0) (·.f1) l
def BackF (l : List S36) : Int → List Int := selE (·.f1) (·.f0) l
theorem mem_NextF {a x : Int} : x ∈ NextF l a ↔ ∃ e ∈ l, e.f0 = a ∧ e.f1 = x := by
 unfold NextF selE
 simp only [List.mem_map, List.mem_filter, beq_iff_eq]
 exact ⟨fun ⟨e, ⟨h1, h2⟩, h3⟩ => ⟨e, h1, h2, h3⟩, fun ⟨e, h1, h2, h3⟩ => ⟨e, ⟨h1, h2⟩, h3⟩⟩
theorem mem_BackF {a x : Int} : x ∈ BackF l a ↔ ∃ e ∈ l, e.f1 = a ∧ e.f0 = x := by
 unfold BackF selE
 simp only [List.mem_map, List.mem_filter, beq_iff_eq]
 exact ⟨fun ⟨e, ⟨h1, h2⟩, h3⟩ => ⟨e, h1, h2, h3⟩, fun ⟨e, h1, h2, h3⟩ => ⟨e, ⟨h1, h2⟩, h3⟩⟩
/-- What holds of S between two steps. -/
def SpInv (l : List S36) (M fr S : List Int) : Prop := S.Nodup ∧ (∀ x ∈ S, x ∈ l.map (·.f1)) ∧ ∀ x ∈ S, x ∉ M ∧ Rch (NextF l) (· ∈ M) fr x
theorem spStep_inv (h : SpInv l M fr S) (he : e ∈ l) : SpInv l M fr (spStep M fr S e) := by
 unfold spStep
 split
 case isFalse => exact h
 rename_i hc
 obtain ⟨h1, h2, h3⟩ := h
 refine ⟨List.nodup_append.2 ⟨h1, by simp, fun y hy z hz e' => hc.2.2 (by rw [List.mem_singleton] at hz; rw [← hz, ← e']; exact hy)⟩, fun x hx => ?_, fun x hx => ?_⟩
 ·rcases List.mem_append.1 hx with hx | hx
  ·exact h2 x hx
  ·rw [List.mem_singleton] at hx; subst hx; exact List.mem_map.2 ⟨e, he, rfl⟩
 ·rcases List.mem_append.1 hx with hx | hx
  ·exact h3 x hx
  ·rw [List.mem_singleton] at hx
   subst hx
   exact ⟨hc.2.1, Rch.go (hc.1.imp id (fun h => (h3 _ h).2)) (mem_NextF.2 ⟨e, he, rfl, rfl⟩) hc.2.1⟩
theorem spPass_inv (hl : ∀ e ∈ l2, e ∈ l) : ∀ S, SpInv l M fr S → SpInv l M fr (spPass M fr l2 S) := by
 induction l2 with
 | nil => exact fun S h => h
 | cons e l2 ih =>
  intro S h
  exact ih (fun e he => hl e (by simp [he])) _ (spStep_inv h (hl e (by simp)))
theorem spStep_len (M fr S : List Int) (e : S36) : spStep M fr S e = S ∨ S.length + 1 = (spStep M fr S e).length := by
 unfold spStep
 split
 ·right; simp
 ·left; rfl
theorem spPass_len (M fr : List Int) : ∀ (l : List S36) (S : List Int), S.length ≤ (spPass M fr l S).length ∧ ((spPass M fr l S).length = S.length → spPass M fr l S = S ∧ ∀ e ∈ l, spStep M fr S e = S)
 | [], S => ⟨Nat.le_refl _, fun _ => ⟨rfl, fun e he => by cases he⟩⟩
 | e :: l, S => by
  have ih := spPass_len M fr l (spStep M fr S e)
  show S.length ≤ (spPass M fr l (spStep M fr S e)).length ∧ ((spPass M fr l (spStep M fr S e)).length = S.length → spPass M fr l (spStep M fr S e) = S ∧ _)
  rcases spStep_len M fr S e with h | h
  ·rw [h] at ih ⊢
   exact ⟨ih.1, fun hh => ⟨(ih.2 hh).1, fun e' he' => by
    rcases List.mem_cons.1 he' with rfl | he'
    ·exact h
    ·exact (ih.2 hh).2 e' he'⟩⟩
  ·exact ⟨by omega, fun hh => by omega⟩
theorem spIter_fix (h : spPass M fr l S = S) : ∀ n, spIter M fr l n S = S
 | 0 => rfl
 | n + 1 => by show spIter M fr l n (spPass M fr l S) = S; rw [h]; exact spIter_fix h n
theorem spIter_inv : ∀ n S, SpInv l M fr S → SpInv l M fr (spIter M fr l n S)
 | 0, _, h => h
 | n + 1, S, h => spIter_inv n _ (spPass_inv (fun _ h => h) S h)
theorem spIter_len : ∀ n S, spPass M fr l (spIter M fr l n S) = spIter M fr l n S ∨ S.length + n ≤ (spIter M fr l n S).length
 | 0, S => .inr (Nat.le_refl _)
 | n + 1, S => by
  have h := spPass_len M fr l S
  show spPass M fr l (spIter M fr l n (spPass M fr l S)) = spIter M fr l n (spPass M fr l S) ∨ _ ≤ (spIter M fr l n (spPass M fr l S)).length
  by_cases hl : (spPass M fr l S).length = S.length
  ·have hf := (h.2 hl).1
   left
   rw [hf, spIter_fix hf, hf]
  ·rcases spIter_len n (spPass M fr l S) with ih | ih
   ·exact .inl ih
   ·right; omega
theorem spreadF_inv (l : List S36) (M fr : List Int) : SpInv l M fr (spreadF l M fr) := spIter_inv _ _ ⟨List.nodup_nil, (fun x h => by cases h), (fun x h => by cases h)⟩
theorem spreadF_nodup (l : List S36) (M fr : List Int) : (spreadF l M fr).Nodup := (spreadF_inv l M fr).1
theorem spreadF_len (l : List S36) (M fr : List Int) : (spreadF l M fr).length ≤ l.length := by
 have := nodup_le (spreadF_nodup l M fr) (spreadF_inv l M fr).2.1
 simpa using this
theorem spreadF_fix (l : List S36) (M fr : List Int) : spPass M fr l (spreadF l M fr) = spreadF l M fr := by
 rcases spIter_len (M := M) (fr := fr) (l := l) (l.length + 1) [] with h | h
 ·exact h
 ·have := spreadF_len l M fr
  unfold spreadF at this
  simp only [List.length_nil] at h
  omega
theorem mem_spreadF (l : List S36) (M fr : List Int) (x : Int) : x ∈ spreadF l M fr ↔ Rch (NextF l) (· ∈ M) fr x := by
 refine ⟨fun hx => ((spreadF_inv l M fr).2.2 x hx).2, fun hx => hx (· ∈ spreadF l M fr) (fun a y ha hy hm => ?_)⟩
 obtain ⟨e, he, rfl, rfl⟩ := mem_NextF.1 hy
 have hf := spreadF_fix l M fr
 have hs := ((spPass_len M fr l (spreadF l M fr)).2 (by rw [hf])).2 e he
 unfold spStep at hs
 split at hs
 ·have := congrArg List.length hs
  simp at this
 ·rename_i hc
  exact Classical.byContradiction fun hn => hc ⟨ha, hm, hn⟩
end
theorem Rch_congr {F : Int → List Int} {M M' : Int → Prop} {fr fr' : List Int} (hm : ∀ x, M x ↔ M' x) (hf : ∀ x, x ∈ fr ↔ x ∈ fr') (x : Int) : Rch F M fr x ↔ Rch F M' fr' x :=
 ⟨fun h S hS => h S (fun a y ha hy hn => hS a y (ha.imp (hf a).1 id) hy (fun h => hn ((hm y).2 h))), fun h S hS => h S (fun a y ha hy hn => hS a y (ha.imp (hf a).2 id) hy (fun h => hn ((hm y).1 h)))⟩
/-! #### sorted -/
theorem atE_le (out : List Int) (x : Int) : ∀ n, atE out x n ≤ n
 | 0 => Nat.le_refl _
 | n + 1 => by
  rw [atE]
  split
  ·exact Nat.le_succ_of_le (atE_le out x n)
  ·exact Nat.le_refl _
theorem mem_insI {out : List Int} {x y : Int} : y ∈ insI out x ↔ y ∈ out ∨ y = x := by
 unfold insI
 have h := List.take_append_drop (atE out x out.length) out
 constructor
 ·intro hy
  rcases List.mem_append.1 hy with hy | hy
  ·exact .inl (List.mem_of_mem_take hy)
  ·rcases List.mem_cons.1 hy with hy | hy
   ·exact .inr hy
   ·exact .inl (List.mem_of_mem_drop hy)
 ·rintro (hy | rfl)
  ·rw [← h] at hy
   rcases List.mem_append.1 hy with hy | hy
   ·exact List.mem_append.2 (.inl hy)
   ·exact List.mem_append.2 (.inr (by simp [hy]))
  ·simp
theorem foldI_mem : ∀ (l out : List Int) (y : Int), y ∈ l.foldl insI out ↔ y ∈ out ∨ y ∈ l
 | [], out, y => by simp
 | x :: l, out, y => by rw [List.foldl_cons, foldI_mem l, mem_insI, List.mem_cons, or_assoc]
theorem mem_sortI {l : List Int} {y : Int} : y ∈ sortI l ↔ y ∈ l := by unfold sortI; rw [foldI_mem]; simp
theorem atE_spec (out : List Int) (x : Int) (hs : out.Pairwise (· < ·)) : ∀ n, n ≤ out.length → (∀ i, atE out x n ≤ i → i < n → x < out.getD i 0) ∧ (∀ i, i < atE out x n → out.getD i 0 ≤ x)
 | 0, _ => ⟨fun i _ h => by omega, fun i h => by simp [atE] at h⟩
 | n + 1, hn => by
  have ih := atE_spec out x hs n (by omega)
  rw [atE]
  have hrd : rd out (n : Int) = out.getD n 0 := by simp [rd]
  split
  ·rename_i hx
   rw [hrd] at hx
   refine ⟨fun i h1 h2 => ?_, ih.2⟩
   by_cases e : i = n
   ·subst e; exact hx
   ·exact ih.1 i h1 (by omega)
  ·rename_i hx
   rw [hrd] at hx
   refine ⟨fun i h1 h2 => by omega, fun i h => ?_⟩
   by_cases e : i = n
   ·subst e; omega
   ·have hin : i < out.length := by omega
    have hnn : n < out.length := by omega
    have := List.pairwise_iff_getElem.1 hs i n hin hnn (by omega)
    simp only [List.getD_eq_getElem?_getD, List.getElem?_eq_getElem hin, List.getElem?_eq_getElem hnn, Option.getD_some] at hx ⊢
    omega
theorem insI_sorted {out : List Int} {x : Int} (hs : out.Pairwise (· < ·)) (hx : x ∉ out) : (insI out x).Pairwise (· < ·) := by
 obtain ⟨h1, h2⟩ := atE_spec out x hs out.length (Nat.le_refl _)
 have hle := atE_le out x out.length
 unfold insI
 refine List.pairwise_append.2 ⟨hs.sublist (List.take_sublist _ _), List.pairwise_cons.2 ⟨fun y hy => ?_, hs.sublist (List.drop_sublist _ _)⟩, fun y hy z hz => ?_⟩
 ·obtain ⟨i, hi, rfl⟩ := List.getElem_of_mem hy
  rw [List.getElem_drop]
  rw [List.length_drop] at hi
  have := h1 (atE out x out.length + i) (by omega) (by omega)
  simpa [List.getD_eq_getElem?_getD, List.getElem?_eq_getElem (show atE out x out.length + i < out.length by omega)] using this
 ·obtain ⟨i, hi, rfl⟩ := List.getElem_of_mem hy
  rw [List.length_take] at hi
  rw [List.getElem_take]
  have hil : i < out.length := by omega
  have hyx := h2 i (by omega)
  rw [List.getD_eq_getElem?_getD, List.getElem?_eq_getElem hil, Option.getD_some] at hyx
  have hne : out[i] ≠ x := fun e => hx (e ▸ List.getElem_mem hil)
  rcases List.mem_cons.1 hz with rfl | hz
  ·omega
  ·obtain ⟨j, hj, rfl⟩ := List.getElem_of_mem hz
   rw [List.length_drop] at hj
   rw [List.getElem_drop]
   exact List.pairwise_iff_getElem.1 hs i _ hil (by omega) (by omega)
theorem foldI_sorted : ∀ (l out : List Int), out.Pairwise (· < ·) → l.Nodup → (∀ x ∈ l, x ∉ out) → (l.foldl insI out).Pairwise (· < ·)
 | [], out, h, _, _ => h
 | x :: l, out, h, hn, hd => by
  obtain ⟨h1, h2⟩ := List.nodup_cons.1 hn
  exact foldI_sorted l _ (insI_sorted h (hd x (by simp))) h2 (fun y hy hyi => by
   rcases mem_insI.1 hyi with h | h
   ·exact hd y (by simp [hy]) h
   ·exact h1 (h ▸ hy))
theorem sortI_sorted {l : List Int} (h : l.Nodup) : (sortI l).Pairwise (· < ·) := foldI_sorted l [] List.Pairwise.nil h (fun x _ hx => by cases hx)
/-! #### reach.Of, reach.Check -/
def bndE (l : List S36) : Bool := decide (l.length ≤ 1000000) && l.all (fun e => (Lit.int .i64 e.f0).wf && (Lit.int .i64 e.f1).wf)
def bndI (l : List Int) : Bool := decide (l.length ≤ 1000000) && l.all (fun x => (Lit.int .i64 x).wf)
theorem bndE_le {l : List S36} (h : bndE l = true) : l.length ≤ 1000000 ∧ ∀ e ∈ l, wfI e.f0 ∧ wfI e.f1 := by
 unfold bndE at h
 rw [Bool.and_eq_true, decide_eq_true_eq, List.all_eq_true] at h
 exact ⟨h.1, fun e he => by have := h.2 e he; rw [Bool.and_eq_true] at this; exact this⟩
theorem bndI_le {l : List Int} (h : bndI l = true) : l.length ≤ 1000000 ∧ ∀ x ∈ l, wfI x := by
 unfold bndI at h
 rw [Bool.and_eq_true, decide_eq_true_eq, List.all_eq_true] at h
 exact h
/-- What is reached by edges, rising. -/
def liveF (l : List S36) : List Int := sortI (spreadF l [] [-1])
def reach_Of.f (k : Nat) (l0 : List (S36)) : Option (List (S36) × List Int × Int) :=
 (edges_Check.f k l0).bind fun e => if e = 0 then (if bndE l0 = true then some (l0, liveF l0, 0) else none) else some ([], [], e)
theorem reach_Of.mono : ∀ a0 k, LeO (reach_Of.f k a0) (reach_Of.f (k + 1) a0) := by
 intro a k
 exact LeO.bind (edges_Check.mono _ _) (fun _ => LeO.refl _)
def reach_Check.f (k : Nat) (l0_0 : List (S36)) (l0_1 : List Int) : Option Int :=
 (reach_Of.f k l0_0).bind fun x => if x.2.2 = 0 then ((slices_Equal_int_int.f k x.2.1 l0_1).bind fun b => some (if b = true then 0 else 1)) else some 1
theorem reach_Check.mono : ∀ a0 a1 k, LeO (reach_Check.f k a0 a1) (reach_Check.f (k + 1) a0 a1) := by
 intro a b k
 refine LeO.bind (reach_Of.mono _ _) (fun _ => ?_)
 refine LeO.ite ?_ (LeO.refl _)
 exact LeO.bind (slices_Equal_int_int.mono _ _ _) (fun _ => LeO.refl _)
theorem selE_len (k v : S36 → Int) (l : List S36) (a : Int) : (selE k v l a).length ≤ l.length := by
 unfold selE
 rw [List.length_map]
 exact List.length_filter_le _ _
theorem NextF_U {l : List S36} (a x : Int) (h : x ∈ NextF l a) : x ∈ l.map (·.f1) := by
 obtain ⟨e, he, _, rfl⟩ := mem_NextF.1 h
 exact List.mem_map.2 ⟨e, he, rfl⟩
theorem U_wf {l : List S36} (h : ∀ e ∈ l, wfI e.f0 ∧ wfI e.f1) : ∀ x ∈ l.map (·.f1), wfI x := fun x hx => by
 obtain ⟨e, he, rfl⟩ := List.mem_map.1 hx
 exact (h e he).2
theorem wfI_m1 : wfI (-1) := by unfold wfI; decide
/-- A row of one number that lies alone in the world's last block. -/
theorem R_one (w : World) (x : Int) (base : Nat) (hb : base ≤ w.heap.size) : Kd.R (Kd.int .i64) 3 (w.alloc (.cells #[.int .i64 x] 3)) base (fun k => k = w.heap.size) (.slice (some ⟨w.heap.size, 0, none⟩) 1 1) [x] :=
 R_raw (inner := [.int .i64 x]) ⟨rfl, .inr ⟨w.heap.size, 1, #[.int .i64 x], rfl, hb, heap_alloc_new w _, Nat.le_refl _, by unfold maxLen; omega, rfl, rfl⟩⟩ (inner_ints [x]) (fun k hk => by simpa [Value.ownBlock] using hk.symm)
/-- A row of another type abides what is laid in a box. -/
theorem R_far2 {α : Type} {d : Kd α} {e base : Nat} {W : World} {ok : Nat → Prop} {v : Value} {xs : List α} {g t : Nat} {cells : Array Value} (h : Kd.R d e W base ok v xs) (hb : W.heap[g]? = some (.cells cells t (0, 0))) (ht : t ∉ e :: d.E) (u u' : Value) : Kd.R d e ((W.setCell ⟨g, 0, none⟩ u).setCell ⟨g, 1, none⟩ u') base ok v xs :=
 Kd.R_move (Kd.R_mono (ok' := fun k => ok k ∧ k ≠ g) (Kd.R_bound h) (fun k hk => ⟨hk.1, fun e_ => by
  obtain ⟨_, _, _, q, hq, cs, hc⟩ := hk
  rw [e_, hb] at hc
  injection hc with hc
  injection hc with _ hc
  exact ht (hc ▸ hq)⟩)) (fun k hk => (Below.heap_setCell _ ⟨g, 1, none⟩ u' k hk.2).trans (Below.heap_setCell W ⟨g, 0, none⟩ u k hk.2)) |> fun h => Kd.R_mono h (fun k hk => hk.1)
/-- A graph's box that nothing has been laid in yet. -/
def GBox (w wr : World) (g : Nat) : Prop := wr.heap[g]? = some (.cells #[.slice none 0 0, .slice none 0 0] 25 (0, 0)) ∧ w.heap.size ≤ g ∧ Below w.heap.size w wr
theorem GBox_below {w wr w' : World} {g : Nat} (h : GBox w wr g) (hb : Below wr.heap.size wr w') : GBox w w' g := ⟨blk_below h.1 hb, h.2.1, below_step h.2.2 hb⟩
theorem GBox_new {w wr w' : World} {g : Nat} (hb : Below w.heap.size w wr) (hg : g = wr.heap.size) (hbox : w'.heap[g]? = some (.cells #[.slice none 0 0, .slice none 0 0] 25 (0, 0))) (hb' : Below wr.heap.size wr w') : GBox w w' g := ⟨hbox, by rw [hg]; exact below_size hb, below_step hb hb'⟩
set_option maxRecDepth 100000 in
set_option maxHeartbeats 4000000 in
theorem reach_Of.calls (k : Nat) (A0 : Option Addr) (c0 : Nat) (l0 : List (S36)) (r1 : List (S36)) (r2 : List Int) (r3 : Int) (w : World) (hr0 : Kd.C k36 w A0 l0.length l0) (hc0 : l0.length ≤ c0) (h : reach_Of.f k l0 = some (r1, r2, r3)) :
  Calls Try.prog 22 #[.slice A0 l0.length c0] w fun e w' => ∃ v0_ v1_ : Value, e = .returned (.tuple #[.agg #[v0_, v1_], .int .i64 r3]) ∧ Kd.R k36 36 w' w.heap.size (fun _ => True) v0_ r1 ∧ Kd.R (Kd.int .i64) 3 w' w.heap.size (fun _ => True) v1_ r2 ∧ Below w.heap.size w w' := by
 unfold reach_Of.f at h
 obtain ⟨e, he, h⟩ := Option.bind_eq_some_iff.mp h
 have HR0 := Aside0.mk hr0
 have HC0 := Aside0.mk hc0
 have HE := Aside0.mk he
 have huG := Try.underlying25
 clear hr0 hc0 he
 by_cases hc : e = 0
 case neg =>
  rw [if_neg hc] at h
  simp only [Option.some.injEq, Prod.mk.injEq] at h
  obtain ⟨rfl, rfl, rfl⟩ := h
  have d0 : (e == 0) = false := by simpa using hc
  have d1 : (e != 0) = true := by simpa using hc
  clear hc
  go_enter Try.func22, Try.ntmps22
  go_wp2_with (first
   | ((with_reducible refine gate_dst (N := 2) rfl ?_); refine box_event ?hg (N := 2) ?hd (cs := #[.slice none 0 0, .slice none 0 0]) (t := 25) ?hr ?_; (case hd => rfl); (case hg => rfl); (case hr => first | (go_simp; done) | (go_simp; rfl)); intro g2 hg w0 hbox hb; have HG := Aside0.mk (GBox_new (Below.refl _ _) hg hbox hb); clear hg hbox hb)
   | (go_at_call 46; refine (edges_Check.calls k _ _ l0 e _ (Kd.C_below HR0.out HG.out.2.2) HC0.out HE.out).mono ?_; rintro e w1 ⟨rfl, hb⟩; have HG1 := Aside0.mk (GBox_below HG.out hb); clear hb HG; have hc0 := (blk_cell HG1.out.1 0).trans rfl; have hc1 := (blk_cell HG1.out.1 1).trans rfl; have hf0 := blk_frozen HG1.out.1 0; have hf1 := blk_frozen HG1.out.1 1))
  refine bodyPost_ret (results_list (rs := [.cell 2 25, .tmp 3]) rfl (by simp) (.cell g2 25 #[.slice none 0 0, .slice none 0 0] (0, 0) _ rfl (by refine blk_put (cs := #[.slice none 0 0, .slice none 0 0]) ?_ 1 _ rfl; refine blk_put (cs := #[.slice none 0 0, .slice none 0 0]) ?_ 0 _ rfl; exact HG1.out.1) Try.underlying25 rfl (by kernel_rfl) (.tmp .nil))) rfl ?_
  exact ⟨_, _, rfl, Kd.R_nil _ _ _ _ _, Kd.R_nil _ _ _ _ _, below_set (below_set HG1.out.2.2 HG1.out.2.1) HG1.out.2.1⟩
 case pos =>
  subst hc
  rw [if_pos rfl] at h
  split at h
  case isFalse => cases h
  rename_i hbd
  simp only [Option.some.injEq, Prod.mk.injEq] at h
  obtain ⟨rfl, rfl, rfl⟩ := h
  obtain ⟨hbl, hbw⟩ := bndE_le hbd
  have HL := Aside0.mk hbl
  have HW := Aside0.mk hbw
  have hmm := @run_makeMap Try.prog
  have huS := Try.underlying57
  clear hbd hbl hbw
  go_enter Try.func22, Try.ntmps22
  go_wp2_with (first
   | ((with_reducible refine gate_dst (N := 2) rfl ?_); refine box_event ?hg (N := 2) ?hd (cs := #[.slice none 0 0, .slice none 0 0]) (t := 25) ?hr ?_; (case hd => rfl); (case hg => rfl); (case hr => first | (go_simp; done) | (go_simp; rfl)); intro g2 hg w0 hbox hb; have HG := Aside0.mk (GBox_new (Below.refl _ _) hg hbox hb); clear hg hbox hb)
   | (go_at_call 46; refine (edges_Check.calls k _ _ l0 0 _ (Kd.C_below HR0.out HG.out.2.2) HC0.out HE.out).mono ?_; rintro e w1 ⟨rfl, hb⟩; have HG1 := Aside0.mk (GBox_below HG.out hb); clear hb HG))
  have HS := SetM_new w1
  have HG2 := GBox_below HG1.out (below_alloc (Below.refl _ w1) (.map #[] 0))
  have hbl0 : w.heap.size ≤ w1.heap.size := below_size HG1.out.2.2
  generalize w1.alloc (.map #[] 0) = w2 at HS HG2 ⊢
  generalize w1.heap.size = bl at HS hbl0 ⊢
  clear HG1 hmm
  have hbl2 := SetM_lt HS
  have hng := SetM_ne HS HG2.1
  refine (paths_calls _ _ l0 _ (Kd.C_below HR0.out HG2.2.2) (by have := HL.out; omega) HW.out).mono ?_
  rintro e w3 ⟨nb, bb, rfl, hb3, hN1, hN2⟩
  have HS3 := Aside0.mk (SetM_below HS hb3)
  have HG3 := Aside0.mk (GBox_below HG2 hb3)
  have HN3 := Aside0.mk hN1
  have HX3 := Aside0.mk (And.intro hbl0 (And.intro hbl2 (And.intro hng hb3.size)))
  have hg3 := blk_lt (blk_below HG2.1 hb3)
  have HG3l := Aside0.mk hg3
  clear HS HG2 hb3 hN1 hN2 hbl0 hbl2 hng hg3
  have hb4 : Below w3.heap.size w3 (w3.alloc (.cells #[.int .i64 (-1)] 3)) := below_alloc (Below.refl _ _) _
  have hsp := Aside0.mk (spread_calls w nb bb (w2.heap.size + 1) w3.heap.size bl 0 (NextF l0) (fun _ => False) (fun k => k = w3.heap.size) _ [-1] (l0.map (·.f1)) _ (NextOK_kept HN3.out (fun k _ h2 => Below.heap_alloc w3 _ k h2)) (by simp) (SetM_below HS3.out hb4) (by have := HX3.out.2.1; omega) (by rintro k rfl; omega) (R_one w3 (-1) w.heap.size (below_size HG3.out.2.2)) (GBox_below HG3.out hb4).2.2 HX3.out.1
   (fun x hx => by rw [List.mem_singleton] at hx; subst hx; exact wfI_m1) (fun a x hx => NextF_U a x hx) (U_wf HW.out) (fun a => by have := selE_len (·.f0) (·.f1) l0 a; have := HL.out; unfold NextF; omega) (by have := HL.out; simp; omega) (by simp) (by omega))
  have HB4 := Aside0.mk hb4
  clear hb4
  go_wp2_with (go_at_call 36; refine hsp.out.mono ?_; rintro e w5 ⟨bc, C, rfl, hS5, hC5, hmem, hCl, _, _, hb5, hk5⟩; have HG5 : Aside0 (GBox w w5 g2) := ⟨blk_kept (blk_below HG3.out.1 HB4.out) hk5 (by have := HX3.out.2.2.1; have := HG3l.out; omega), HG3.out.2.1, hb5⟩; have HS5 := Aside0.mk hS5; have HM := Aside0.mk hmem; have HCl := Aside0.mk hCl; clear hS5 hC5 hmem hCl hb5 hk5 hsp HB4 HS3 HG3)
  go_wp2_with (first
   | (go_at_call 47; refine (api_Edge_47.calls _ _ l0 l0 _ (Kd.C_below HR0.out HG5.out.2.2) HC0.out (by unfold api_Edge_47.f; rw [if_pos (by have := HL.out; omega)])).mono ?_; rintro e w6 ⟨v6, rfl, ho, hb⟩; have HO6 := Aside0.mk (Kd.R_lower ho (below_size HG5.out.2.2)); have HS6 := Aside0.mk (SetM_below HS5.out hb); have HG6 := Aside0.mk (GBox_below HG5.out hb); clear hb ho))
  refine (rising_calls bl _ _ (liveF l0) _ HS6.out (by have := HCl.out; have := HL.out; rw [List.length_map] at *; omega) (sortI_sorted (spreadF_nodup l0 [] [-1])) (fun x => by unfold liveF; rw [mem_sortI, mem_spreadF, HM.out]; simp)).mono ?_
  rintro e w7 ⟨v7, rfl, ho, hb⟩
  have HO7 := Aside0.mk (Kd.R_lower ho (below_size HG6.out.2.2))
  have HO8 := Aside0.mk (Kd.R_below HO6.out hb)
  have HG7 := Aside0.mk (GBox_below HG6.out hb)
  have hc0 : w7.cell? ⟨g2, 0, none⟩ = some (.slice none 0 0) := (blk_cell HG7.out.1 0).trans rfl
  have hc1 : w7.cell? ⟨g2, 1, none⟩ = some (.slice none 0 0) := (blk_cell HG7.out.1 1).trans rfl
  have hf0 := blk_frozen HG7.out.1 0
  have hf1 := blk_frozen HG7.out.1 1
  clear hb ho HO6
  obtain ⟨A6, c6, rfl⟩ := Kd.R_slice HO8.out
  obtain ⟨A7, c7, rfl⟩ := Kd.R_slice HO7.out
  go_wp2
  refine bodyPost_ret (results_list (rs := [.cell 2 25, .tmp 3]) rfl (by simp) (.cell g2 25 #[.slice A6 l0.length c6, .slice A7 (liveF l0).length c7] (0, 0) _ rfl (by refine blk_put (cs := #[.slice A6 l0.length c6, .slice none 0 0]) ?_ 1 _ rfl; refine blk_put (cs := #[.slice none 0 0, .slice none 0 0]) ?_ 0 _ rfl; exact HG7.out.1) Try.underlying25 rfl (by kernel_rfl) (.tmp .nil))) rfl ?_
  refine ⟨_, _, rfl, ?_, ?_, below_set (below_set HG7.out.2.2 HG7.out.2.1) HG7.out.2.1⟩
  ·exact R_far2 HO8.out HG7.out.1 (by decide) _ _
  ·exact R_far2 HO7.out HG7.out.1 (by decide) _ _
set_option maxRecDepth 100000 in
set_option maxHeartbeats 4000000 in
theorem reach_Check.calls (k : Nat) (A0_0 : Option Addr) (c0_0 : Nat) (l0_0 : List (S36)) (A0_1 : Option Addr) (c0_1 : Nat) (l0_1 : List Int) (r : Int) (w : World) (hr0_0 : Kd.C k36 w A0_0 l0_0.length l0_0) (hc0_0 : l0_0.length ≤ c0_0) (hr0_1 : Kd.C (Kd.int .i64) w A0_1 l0_1.length l0_1) (hc0_1 : l0_1.length ≤ c0_1) (h : reach_Check.f k l0_0 l0_1 = some r) :
  Calls Try.prog 26 #[.agg #[.slice A0_0 l0_0.length c0_0, .slice A0_1 l0_1.length c0_1]] w fun e w' => e = .returned (.int .i64 r) ∧ Below w.heap.size w w' := by
 unfold reach_Check.f at h
 obtain ⟨⟨x1, x2, x3⟩, hx, h⟩ := Option.bind_eq_some_iff.mp h
 have HR0 := Aside0.mk hr0_0
 have HC0 := Aside0.mk hc0_0
 have HR1 := Aside0.mk hr0_1
 have HC1 := Aside0.mk hc0_1
 have HXX := Aside0.mk hx
 have huG := Try.underlying25
 simp only at h
 clear hr0_0 hc0_0 hr0_1 hc0_1 hx
 have hbx := heap_alloc_new w (.cells #[.slice A0_0 l0_0.length c0_0, .slice A0_1 l0_1.length c0_1] 25)
 have hbw : Below w.heap.size w (w.alloc (.cells #[.slice A0_0 l0_0.length c0_0, .slice A0_1 l0_1.length c0_1] 25)) := below_alloc (Below.refl _ _) _
 have HBX := Aside0.mk hbx
 have HBW := Aside0.mk hbw
 clear hbx hbw
 by_cases hc : x3 = 0
 case neg =>
  rw [if_neg hc] at h
  obtain rfl := Option.some.inj h
  have d0 : (x3 == 0) = false := by simpa using hc
  have d1 : (x3 != 0) = true := by simpa using hc
  clear hc h
  go_enter Try.func26, Try.ntmps26
  go_wp2_with (first
   | (go_at_call 22; refine (reach_Of.calls k _ _ l0_0 x1 x2 x3 _ (Kd.C_below HR0.out HBW.out) HC0.out HXX.out).mono ?_; rintro e w1 ⟨v0, v1, rfl, ho0, ho1, hb⟩; obtain ⟨A6, c6, rfl⟩ := Kd.R_slice ho0; obtain ⟨A7, c7, rfl⟩ := Kd.R_slice ho1; have HB1 := Aside0.mk (below_step HBW.out hb); clear hb ho0 ho1))
  go_ret
  exact ⟨rfl, below_alloc HB1.out _⟩
 case pos =>
  subst hc
  rw [if_pos rfl] at h
  obtain ⟨b, hb, h⟩ := Option.bind_eq_some_iff.mp h
  have HEQ := Aside0.mk hb
  have hr := Option.some.inj h
  clear hb h
  cases b
  all_goals
   subst hr
   go_enter Try.func26, Try.ntmps26
   go_wp2_with (first
    | (go_at_call 22; refine (reach_Of.calls k _ _ l0_0 x1 x2 0 _ (Kd.C_below HR0.out HBW.out) HC0.out HXX.out).mono ?_; rintro e w1 ⟨v0, v1, rfl, ho0, ho1, hb⟩; obtain ⟨A6, c6, rfl⟩ := Kd.R_slice ho0; obtain ⟨A7, c7, rfl⟩ := Kd.R_slice ho1; have HB1 := Aside0.mk (below_step HBW.out hb); have HO1 := Aside0.mk ho1; have hbk := blk_below HBX.out hb; have hc1 : w1.cell? ⟨w.heap.size, 1, none⟩ = some (.slice A0_1 l0_1.length c0_1) := (blk_cell hbk 1).trans rfl; have hlt := blk_lt hbk; clear hbk hb ho0 ho1)
    | (go_at_call 48; refine (slices_Equal_int_int.calls k _ _ x2 _ _ l0_1 _ _ (Kd.C_below (Kd.R_reads' HO1.out).2.2 (below_alloc (Below.refl _ _) _)) (Kd.R_reads' HO1.out).2.1 (Kd.C_below HR1.out (below_alloc HB1.out _)) HC1.out HEQ.out).mono ?_; rintro e w2 ⟨rfl, n2, rfl⟩; have tok := HB1))
   go_ret
   exact ⟨rfl, pw_below_drewN (below_alloc HB1.out _) _⟩
/-! #### reach.Link -/
def dedupI : List Int → List Int
 | [] => []
 | x :: l => if x ∈ dedupI l then dedupI l else x :: dedupI l
theorem mem_dedupI {l : List Int} {x : Int} : x ∈ dedupI l ↔ x ∈ l := by
 induction l generalizing x with
 | nil => rfl
 | cons y l ih =>
  rw [dedupI]
  split
  ·rename_i h
   rw [ih, List.mem_cons]
   exact ⟨.inr, fun hx => hx.elim (fun e => e ▸ ih.1 h) id⟩
  ·rw [List.mem_cons, List.mem_cons, ih]
theorem dedupI_nodup : ∀ l : List Int, (dedupI l).Nodup
 | [] => List.nodup_nil
 | x :: l => by
  rw [dedupI]
  split
  ·exact dedupI_nodup l
  ·rename_i h
   exact List.nodup_cons.2 ⟨h, dedupI_nodup l⟩
/-- A set's numbers, rising. -/
def riseI (l : List Int) : List Int := sortI (dedupI l)
theorem riseI_sorted (l : List Int) : (riseI l).Pairwise (· < ·) := sortI_sorted (dedupI_nodup l)
theorem mem_riseI {l : List Int} {x : Int} : x ∈ riseI l ↔ x ∈ l := by unfold riseI; rw [mem_sortI, mem_dedupI]
def linkF (l : List S36) (lv : List Int) (a b : Int) : List S36 × List Int × List Int × Int :=
 if ¬ (a = -1 ∨ a ∈ lv) ∨ b ∈ lv then (l, lv, [], 0) else (l, riseI (lv ++ b :: spreadF l (lv ++ [b]) [b]), riseI (b :: spreadF l (lv ++ [b]) [b]), 0)
def reach_Link.f (k : Nat) (l0_0 : List (S36)) (l0_1 : List Int) (a1 : Int) (a2 : Int) : Option (List (S36) × List Int × List Int × Int) :=
 (reach_Check.f k l0_0 l0_1).bind fun e => if e = 0 then ((edges_Add.f k l0_0 a1 a2).bind fun y => if y.2 = 0 then (if bndE y.1 = true ∧ bndI l0_1 = true ∧ bndI [a1, a2] = true then some (linkF y.1 l0_1 a1 a2) else none) else some (l0_0, l0_1, [], y.2)) else some (l0_0, l0_1, [], e)
theorem reach_Link.mono : ∀ a0 a1 a2 a3 k, LeO (reach_Link.f k a0 a1 a2 a3) (reach_Link.f (k + 1) a0 a1 a2 a3) := by
 intro a b c d k
 refine LeO.bind (reach_Check.mono _ _ _) (fun _ => ?_)
 refine LeO.ite ?_ (LeO.refl _)
 exact LeO.bind (edges_Add.mono _ _ _ _) (fun _ => LeO.refl _)
/-- The result's box and the parameter's. -/
def LInv (w wr : World) (g6 gp : Nat) (s0 s1 : Value) : Prop := GBox w wr g6 ∧ wr.heap[gp]? = some (.cells #[s0, s1] 25 (0, 0)) ∧ gp ≠ g6 ∧ w.heap.size ≤ gp
section
variable {w wr w' : World} {g6 gp : Nat} {s0 s1 : Value}
theorem LInv_below (h : LInv w wr g6 gp s0 s1) (hb : Below wr.heap.size wr w') : LInv w w' g6 gp s0 s1 := ⟨GBox_below h.1 hb, blk_below h.2.1 hb, h.2.2⟩
theorem LInv_grown {b : Nat} (h : LInv w wr g6 gp s0 s1) (hg : wr.grownBy w' (some b)) (hb : w.heap.size ≤ b) (h1 : b ≠ g6) (h2 : b ≠ gp) : LInv w w' g6 gp s0 s1 :=
 ⟨⟨blk_grown h.1.1 hg (fun e => h1 (Option.some.inj e).symm), h.1.2.1, Below.grown h.1.2.2 hg (below_size h.1.2.2) (fun k hk => by cases hk; exact hb)⟩, blk_grown h.2.1 hg (fun e => h2 (Option.some.inj e).symm), h.2.2⟩
theorem LInv_kept {S : Nat → Prop} (h : LInv w wr g6 gp s0 s1) (hk : Kept wr w' S) (h6 : ¬ S g6) (hp : ¬ S gp) (hb : Below w.heap.size w w') : LInv w w' g6 gp s0 s1 := ⟨⟨blk_kept h.1.1 hk h6, h.1.2.1, hb⟩, blk_kept h.2.1 hk hp, h.2.2⟩
/-- A row that spread does not reach. -/
theorem R_past {w9 wa w10 : World} {b n : Nat} {M : Int → Prop} {α : Type} {d : Kd α} {e base : Nat} {ok : Nat → Prop} {v : Value} {xs : List α} (hS : SetM w9 b n M) (h : Kd.R d e w9 base ok v xs) (hb : Below w9.heap.size w9 wa) (hk : Kept wa w10 (fun k => k = b ∨ k = w9.heap.size)) : Kd.R d e w10 base ok v xs :=
 Kd.R_mono (Kd.R_kept (Kd.R_below (Kd.R_mono (ok' := fun k => ok k ∧ k ≠ b ∧ k < w9.heap.size) (Kd.R_bound h) (fun k hk => ⟨hk.1, (fun e_ => by obtain ⟨_, _, _, q, _, cells, hc⟩ := hk; exact SetM_ne hS hc e_.symm), hk.2.2.1⟩)) hb) hk (fun k hk e => e.elim hk.2.1 (fun e => by have := hk.2.2; omega))) (fun k hk => hk.1)
theorem LInv_new {w1 : World} (hb : Below w.heap.size w w1) (hp : w1.heap[gp]? = some (.cells #[s0, s1] 25 (0, 0))) (hgp : gp = w.heap.size) (hg : g6 = w1.heap.size) (hbox : w'.heap[g6]? = some (.cells #[.slice none 0 0, .slice none 0 0] 25 (0, 0))) (hb' : Below w1.heap.size w1 w') : LInv w w' g6 gp s0 s1 :=
 ⟨GBox_new hb hg hbox hb', blk_below hp hb', by have := blk_lt hp; omega, by omega⟩
theorem LInv_p0 (h : LInv w wr g6 gp s0 s1) : wr.cell? ⟨gp, 0, none⟩ = some s0 := (blk_cell h.2.1 0).trans rfl
theorem LInv_p1 (h : LInv w wr g6 gp s0 s1) : wr.cell? ⟨gp, 1, none⟩ = some s1 := (blk_cell h.2.1 1).trans rfl
theorem LInv_c0 (h : LInv w wr g6 gp s0 s1) : wr.cell? ⟨g6, 0, none⟩ = some (.slice none 0 0) := (blk_cell h.1.1 0).trans rfl
theorem LInv_c1 (h : LInv w wr g6 gp s0 s1) : wr.cell? ⟨g6, 1, none⟩ = some (.slice none 0 0) := (blk_cell h.1.1 1).trans rfl
theorem LInv_f0 (h : LInv w wr g6 gp s0 s1) : wr.frozen? ⟨g6, 0, none⟩ = false := blk_frozen h.1.1 0
theorem LInv_f1 (h : LInv w wr g6 gp s0 s1) : wr.frozen? ⟨g6, 1, none⟩ = false := blk_frozen h.1.1 1
end
set_option maxRecDepth 100000 in
set_option maxHeartbeats 8000000 in
theorem reach_Link.calls (k : Nat) (P0_0_ : Nat → Prop) (A0_0 : Option Addr) (c0_0 : Nat) (l0_0 : List (S36)) (P0_1_ : Nat → Prop) (A0_1 : Option Addr) (c0_1 : Nat) (l0_1 : List Int) (a1 : Int) (a2 : Int) (r1 : List (S36)) (r2 : List Int) (r3 : List Int) (r4 : Int) (w : World)
  (hs0_0 : Kd.V k36 36 w w.heap.size (fun k_ => P0_0_ k_) (.slice A0_0 l0_0.length c0_0) l0_0) (hs0_1 : Kd.V (Kd.int .i64) 3 w w.heap.size (fun k_ => P0_1_ k_) (.slice A0_1 l0_1.length c0_1) l0_1) (h : reach_Link.f k l0_0 l0_1 a1 a2 = some (r1, r2, r3, r4)) :
  Calls Try.prog 11 #[.agg #[.slice A0_0 l0_0.length c0_0, .slice A0_1 l0_1.length c0_1], .int .i64 a1, .int .i64 a2] w fun e w' => ∃ v0_ v1_ v2_ : Value, e = .returned (.tuple #[.agg #[v0_, v1_], v2_, .int .i64 r4]) ∧
   Kd.V k36 36 w' w.heap.size (fun k_ => (((P0_0_ k_ ∨ P0_1_ k_) ∨ w.heap.size ≤ k_) ∧ some k_ ≠ (v2_ : Value).ownBlock)) v0_ r1 ∧ Kd.V (Kd.int .i64) 3 w' w.heap.size (fun k_ => (((P0_0_ k_ ∨ P0_1_ k_) ∨ w.heap.size ≤ k_) ∧ some k_ ≠ (v2_ : Value).ownBlock)) v1_ r2 ∧ Kd.R (Kd.int .i64) 3 w' w.heap.size (fun k_ => (w.heap.size ≤ k_)) v2_ r3 ∧ Below w.heap.size w w' := by
 have HS0 := Aside0.mk hs0_0
 have HS1 := Aside0.mk hs0_1
 have huG := Try.underlying25
 unfold reach_Link.f at h
 obtain ⟨e, he, h⟩ := Option.bind_eq_some_iff.mp h
 have HCK := Aside0.mk he
 clear hs0_0 hs0_1 he
 by_cases hc : e = 0
 case neg =>
  rw [if_neg hc] at h
  simp only [Option.some.injEq, Prod.mk.injEq] at h
  obtain ⟨rfl, rfl, rfl, rfl⟩ := h
  have d0 : (e == 0) = false := by simpa using hc
  have d1 : (e != 0) = true := by simpa using hc
  clear hc
  go_enter Try.func11, Try.ntmps11
  go_wp2_with (first
   | ((with_reducible refine gate_dst (N := 3) rfl ?_); refine box_event ?hg (N := 3) ?hd (cs := #[.slice A0_0 l0_0.length c0_0, .slice A0_1 l0_1.length c0_1]) (t := 25) ?hr ?_; (case hd => rfl); (case hg => rfl); (case hr => first | (go_simp; done) | (go_simp; rfl)); intro gp hgp w1 hbox hb; have HP1 := Aside0.mk hbox; have HB1 := Aside0.mk hb; have HGP := Aside0.mk hgp; clear hbox hb hgp)
   | ((with_reducible refine gate_dst (N := 6) rfl ?_); refine box_event ?hg (N := 6) ?hd (cs := #[.slice none 0 0, .slice none 0 0]) (t := 25) ?hr ?_; (case hd => rfl); (case hg => rfl); (case hr => first | (go_simp; done) | (go_simp; rfl)); intro g6 hg6 w2 hbox hb; have HI := Aside0.mk (LInv_new HB1.out HP1.out HGP.out hg6 hbox hb); clear hbox hb hg6; have hp0 := LInv_p0 HI.out; have hp1 := LInv_p1 HI.out)
   | (go_at_call 26; refine (reach_Check.calls k _ _ l0_0 _ _ l0_1 e _ (Kd.C_below (Kd.V_reads' HS0.out).2.2 HI.out.1.2.2) (Kd.V_reads' HS0.out).2.1 (Kd.C_below (Kd.V_reads' HS1.out).2.2 HI.out.1.2.2) (Kd.V_reads' HS1.out).2.1 HCK.out).mono ?_; rintro e w3 ⟨rfl, hb⟩; have n0_ := Aside0.mk (LInv_below HI.out hb); clear HI; have HI := n0_; clear n0_; (try clear hp0); (try clear hp1); have hp0 := LInv_p0 HI.out; have hp1 := LInv_p1 HI.out; clear hb; have hc0 := LInv_c0 HI.out; have hc1 := LInv_c1 HI.out; have hf0 := LInv_f0 HI.out; have hf1 := LInv_f1 HI.out))
  refine bodyPost_ret (results_list (rs := [.cell 6 25, .tmp 7, .tmp 8]) rfl (by simp) (.cell g6 25 #[.slice A0_0 l0_0.length c0_0, .slice A0_1 l0_1.length c0_1] (0, 0) _ rfl (by refine blk_put (cs := #[.slice A0_0 l0_0.length c0_0, .slice none 0 0]) ?_ 1 _ rfl; refine blk_put (cs := #[.slice none 0 0, .slice none 0 0]) ?_ 0 _ rfl; exact HI.out.1.1) Try.underlying25 rfl (by kernel_rfl) (.tmp (.tmp .nil)))) rfl ?_
  have hBf := fun (u u' : Value) => below_set (j := 1) (v := u') (below_set (j := 0) (v := u) HI.out.1.2.2 HI.out.1.2.1) HI.out.1.2.1
  exact ⟨_, _, _, rfl, Kd.V_mono (Kd.V_below HS0.out (hBf _ _)) (fun k hk => ⟨.inl (.inl hk), (fun e => by cases e)⟩), Kd.V_mono (Kd.V_below HS1.out (hBf _ _)) (fun k hk => ⟨.inl (.inr hk), (fun e => by cases e)⟩), Kd.R_nil _ _ _ _ _, hBf _ _⟩
 case pos =>
  subst hc
  rw [if_pos rfl] at h
  obtain ⟨⟨y1, y2⟩, hy, h⟩ := Option.bind_eq_some_iff.mp h
  have HAD := Aside0.mk hy
  simp only at h
  clear hy
  by_cases hc : y2 = 0
  case neg =>
   rw [if_neg hc] at h
   simp only [Option.some.injEq, Prod.mk.injEq] at h
   obtain ⟨rfl, rfl, rfl, rfl⟩ := h
   have d0 : (y2 == 0) = false := by simpa using hc
   have d1 : (y2 != 0) = true := by simpa using hc
   clear hc
   go_enter Try.func11, Try.ntmps11
   go_wp2_with (first
    | ((with_reducible refine gate_dst (N := 3) rfl ?_); refine box_event ?hg (N := 3) ?hd (cs := #[.slice A0_0 l0_0.length c0_0, .slice A0_1 l0_1.length c0_1]) (t := 25) ?hr ?_; (case hd => rfl); (case hg => rfl); (case hr => first | (go_simp; done) | (go_simp; rfl)); intro gp hgp w1 hbox hb; have HP1 := Aside0.mk hbox; have HB1 := Aside0.mk hb; have HGP := Aside0.mk hgp; clear hbox hb hgp)
    | ((with_reducible refine gate_dst (N := 6) rfl ?_); refine box_event ?hg (N := 6) ?hd (cs := #[.slice none 0 0, .slice none 0 0]) (t := 25) ?hr ?_; (case hd => rfl); (case hg => rfl); (case hr => first | (go_simp; done) | (go_simp; rfl)); intro g6 hg6 w2 hbox hb; have HI := Aside0.mk (LInv_new HB1.out HP1.out HGP.out hg6 hbox hb); clear hbox hb hg6; have hp0 := LInv_p0 HI.out; have hp1 := LInv_p1 HI.out)
    | (go_at_call 26; refine (reach_Check.calls k _ _ l0_0 _ _ l0_1 0 _ (Kd.C_below (Kd.V_reads' HS0.out).2.2 HI.out.1.2.2) (Kd.V_reads' HS0.out).2.1 (Kd.C_below (Kd.V_reads' HS1.out).2.2 HI.out.1.2.2) (Kd.V_reads' HS1.out).2.1 HCK.out).mono ?_; rintro e w3 ⟨rfl, hb⟩; have n0_ := Aside0.mk (LInv_below HI.out hb); clear HI; have HI := n0_; clear n0_; (try clear hp0); (try clear hp1); have hp0 := LInv_p0 HI.out; have hp1 := LInv_p1 HI.out; clear hb)
    | (go_at_call 29; refine (edges_Add.calls k _ _ l0_0 a1 a2 y1 y2 _ (Kd.C_below (Kd.V_reads' HS0.out).2.2 HI.out.1.2.2) (Kd.V_reads' HS0.out).2.1 HAD.out).mono ?_; rintro e w4 ⟨v4, rfl, ho, hb⟩; obtain ⟨A4, c4, rfl⟩ := Kd.R_slice ho; have HO4 := Aside0.mk (Kd.R_lower ho (below_size HI.out.1.2.2)); have n0_ := Aside0.mk (LInv_below HI.out hb); clear HI; have HI := n0_; clear n0_; (try clear hp0); (try clear hp1); have hp0 := LInv_p0 HI.out; have hp1 := LInv_p1 HI.out; clear hb; clear ho; have hc0 := LInv_c0 HI.out; have hc1 := LInv_c1 HI.out; have hf0 := LInv_f0 HI.out; have hf1 := LInv_f1 HI.out))
   refine bodyPost_ret (results_list (rs := [.cell 6 25, .tmp 7, .tmp 8]) rfl (by simp) (.cell g6 25 #[.slice A0_0 l0_0.length c0_0, .slice A0_1 l0_1.length c0_1] (0, 0) _ rfl (by refine blk_put (cs := #[.slice A0_0 l0_0.length c0_0, .slice none 0 0]) ?_ 1 _ rfl; refine blk_put (cs := #[.slice none 0 0, .slice none 0 0]) ?_ 0 _ rfl; exact HI.out.1.1) Try.underlying25 rfl (by kernel_rfl) (.tmp (.tmp .nil)))) rfl ?_
   have hBf := fun (u u' : Value) => below_set (j := 1) (v := u') (below_set (j := 0) (v := u) HI.out.1.2.2 HI.out.1.2.1) HI.out.1.2.1
   exact ⟨_, _, _, rfl, Kd.V_mono (Kd.V_below HS0.out (hBf _ _)) (fun k hk => ⟨.inl (.inl hk), (fun e => by cases e)⟩), Kd.V_mono (Kd.V_below HS1.out (hBf _ _)) (fun k hk => ⟨.inl (.inr hk), (fun e => by cases e)⟩), Kd.R_nil _ _ _ _ _, hBf _ _⟩
  case pos =>
   subst hc
   rw [if_pos rfl] at h
   split at h
   case isFalse => cases h
   rename_i hbd
   obtain ⟨b1, b2, b3⟩ := hbd
   obtain ⟨hl0, hw0⟩ := bndE_le b1
   obtain ⟨hl1, hw1⟩ := bndI_le b2
   obtain ⟨_, hw2⟩ := bndI_le b3
   have HL0 := Aside0.mk hl0
   have HW0 := Aside0.mk hw0
   have HL1 := Aside0.mk hl1
   have HW1 := Aside0.mk hw1
   have HWA := Aside0.mk (hw2 a1 (by simp))
   have HWB := Aside0.mk (hw2 a2 (by simp))
   clear b1 b2 b3 hl0 hw0 hl1 hw1 hw2
   have h := Option.some.inj h
   unfold linkF at h
   by_cases hra : a1 = -1 ∨ a1 ∈ l0_1
   case neg =>
    have HN := Aside0.mk hra
    rw [if_pos (.inl hra)] at h
    simp only [Prod.mk.injEq] at h
    obtain ⟨rfl, rfl, rfl, rfl⟩ := h
    clear hra
    go_enter Try.func11, Try.ntmps11
    go_wp2_with (first
     | ((with_reducible refine gate_dst (N := 3) rfl ?_); refine box_event ?hg (N := 3) ?hd (cs := #[.slice A0_0 l0_0.length c0_0, .slice A0_1 l0_1.length c0_1]) (t := 25) ?hr ?_; (case hd => rfl); (case hg => rfl); (case hr => first | (go_simp; done) | (go_simp; rfl)); intro gp hgp w1 hbox hb; have HP1 := Aside0.mk hbox; have HB1 := Aside0.mk hb; have HGP := Aside0.mk hgp; clear hbox hb hgp)
     | ((with_reducible refine gate_dst (N := 6) rfl ?_); refine box_event ?hg (N := 6) ?hd (cs := #[.slice none 0 0, .slice none 0 0]) (t := 25) ?hr ?_; (case hd => rfl); (case hg => rfl); (case hr => first | (go_simp; done) | (go_simp; rfl)); intro g6 hg6 w2 hbox hb; have HI := Aside0.mk (LInv_new HB1.out HP1.out HGP.out hg6 hbox hb); clear hbox hb hg6; have hp0 := LInv_p0 HI.out; have hp1 := LInv_p1 HI.out)
     | (go_at_call 26; refine (reach_Check.calls k _ _ l0_0 _ _ l0_1 0 _ (Kd.C_below (Kd.V_reads' HS0.out).2.2 HI.out.1.2.2) (Kd.V_reads' HS0.out).2.1 (Kd.C_below (Kd.V_reads' HS1.out).2.2 HI.out.1.2.2) (Kd.V_reads' HS1.out).2.1 HCK.out).mono ?_; rintro e w3 ⟨rfl, hb⟩; have n0_ := Aside0.mk (LInv_below HI.out hb); clear HI; have HI := n0_; clear n0_; (try clear hp0); (try clear hp1); have hp0 := LInv_p0 HI.out; have hp1 := LInv_p1 HI.out; clear hb)
     | (go_at_call 29; refine (edges_Add.calls k _ _ l0_0 a1 a2 y1 0 _ (Kd.C_below (Kd.V_reads' HS0.out).2.2 HI.out.1.2.2) (Kd.V_reads' HS0.out).2.1 HAD.out).mono ?_; rintro e w4 ⟨v4, rfl, ho, hb⟩; obtain ⟨A4, c4, rfl⟩ := Kd.R_slice ho; have HO4 := Aside0.mk (Kd.R_lower ho (below_size HI.out.1.2.2)); have n0_ := Aside0.mk (LInv_below HI.out hb); clear HI; have HI := n0_; clear n0_; (try clear hp0); (try clear hp1); have hp0 := LInv_p0 HI.out; have hp1 := LInv_p1 HI.out; clear hb; clear ho)
     | (go_at_call 30; refine (of_calls _ _ l0_1 _ (Kd.C_below (Kd.V_reads' HS1.out).2.2 HI.out.1.2.2) (by have := HL1.out; omega) HW1.out).mono ?_; rintro e w5 ⟨rfl, hs, hb⟩; have HS5 := Aside0.mk hs; have HB5 := Aside0.mk (below_size HI.out.1.2.2); have HO5 := Aside0.mk (Kd.R_below HO4.out hb); clear HO4; have n0_ := Aside0.mk (LInv_below HI.out hb); clear HI; have HI := n0_; clear n0_; (try clear hp0); (try clear hp1); have hp0 := LInv_p0 HI.out; have hp1 := LInv_p1 HI.out; clear hb; clear hs)
     | (go_at_call 31; refine (reached_calls _ _ _ a1 false _ HS5.out HWA.out ⟨(fun h => by cases h), fun h => absurd h HN.out⟩).mono ?_; rintro e w6 ⟨rfl, hb⟩; have HS6 := Aside0.mk (SetM_below HS5.out hb); have HO6 := Aside0.mk (Kd.R_below HO5.out hb); clear HS5 HO5; have n0_ := Aside0.mk (LInv_below HI.out hb); clear HI; have HI := n0_; clear n0_; (try clear hp0); (try clear hp1); have hp0 := LInv_p0 HI.out; have hp1 := LInv_p1 HI.out; clear hb)
     | (go_at_call 33; refine (slices_Clone_int_int.calls _ _ l0_1 l0_1 _ (Kd.C_below (Kd.V_reads' HS1.out).2.2 HI.out.1.2.2) (Kd.V_reads' HS1.out).2.1 (by unfold slices_Clone_int_int.f; rw [if_pos (by have := HL1.out; omega)])).mono ?_; rintro e w8 ⟨v8, rfl, ho, hb⟩; obtain ⟨A8, c8, rfl⟩ := Kd.R_slice ho; have HO8 := Aside0.mk (Kd.R_lower ho (below_size HI.out.1.2.2)); have HO9 := Aside0.mk (Kd.R_below HO6.out hb); have n0_ := Aside0.mk (LInv_below HI.out hb); clear HI; have HI := n0_; clear n0_; (try clear hp0); (try clear hp1); have hp0 := LInv_p0 HI.out; have hp1 := LInv_p1 HI.out; clear hb; clear ho; have hc0 := LInv_c0 HI.out; have hc1 := LInv_c1 HI.out; have hf0 := LInv_f0 HI.out; have hf1 := LInv_f1 HI.out))
    refine bodyPost_ret (results_list (rs := [.cell 6 25, .tmp 7, .tmp 8]) rfl (by simp) (.cell g6 25 #[.slice A4 y1.length c4, .slice A8 l0_1.length c8] (0, 0) _ rfl (by refine blk_put (cs := #[.slice A4 y1.length c4, .slice none 0 0]) ?_ 1 _ rfl; refine blk_put (cs := #[.slice none 0 0, .slice none 0 0]) ?_ 0 _ rfl; exact HI.out.1.1) Try.underlying25 rfl (by kernel_rfl) (.tmp (.tmp .nil)))) rfl ?_
    have hBf := fun (u u' : Value) => below_set (j := 1) (v := u') (below_set (j := 0) (v := u) HI.out.1.2.2 HI.out.1.2.1) HI.out.1.2.1
    exact ⟨_, _, _, rfl, Kd.V_mono (Kd.R_V (Kd.R_bound (R_far2 HO9.out HI.out.1.1 (by decide) _ _))) (fun k hk => ⟨.inr hk.2.1, (fun e => by cases e)⟩), Kd.V_mono (Kd.R_V (Kd.R_bound (R_far2 HO8.out HI.out.1.1 (by decide) _ _))) (fun k hk => ⟨.inr hk.2.1, (fun e => by cases e)⟩), Kd.R_nil _ _ _ _ _, hBf _ _⟩
   case pos =>
    have HY := Aside0.mk hra
    by_cases hm : a2 ∈ l0_1
    case pos =>
     have HM := Aside0.mk hm
     rw [if_pos (.inr hm)] at h
     simp only [Prod.mk.injEq] at h
     obtain ⟨rfl, rfl, rfl, rfl⟩ := h
     clear hra hm
     go_enter Try.func11, Try.ntmps11
     go_wp2_with (first
      | ((with_reducible refine gate_dst (N := 3) rfl ?_); refine box_event ?hg (N := 3) ?hd (cs := #[.slice A0_0 l0_0.length c0_0, .slice A0_1 l0_1.length c0_1]) (t := 25) ?hr ?_; (case hd => rfl); (case hg => rfl); (case hr => first | (go_simp; done) | (go_simp; rfl)); intro gp hgp w1 hbox hb; have HP1 := Aside0.mk hbox; have HB1 := Aside0.mk hb; have HGP := Aside0.mk hgp; clear hbox hb hgp)
      | ((with_reducible refine gate_dst (N := 6) rfl ?_); refine box_event ?hg (N := 6) ?hd (cs := #[.slice none 0 0, .slice none 0 0]) (t := 25) ?hr ?_; (case hd => rfl); (case hg => rfl); (case hr => first | (go_simp; done) | (go_simp; rfl)); intro g6 hg6 w2 hbox hb; have HI := Aside0.mk (LInv_new HB1.out HP1.out HGP.out hg6 hbox hb); clear hbox hb hg6; have hp0 := LInv_p0 HI.out; have hp1 := LInv_p1 HI.out)
      | (go_at_call 26; refine (reach_Check.calls k _ _ l0_0 _ _ l0_1 0 _ (Kd.C_below (Kd.V_reads' HS0.out).2.2 HI.out.1.2.2) (Kd.V_reads' HS0.out).2.1 (Kd.C_below (Kd.V_reads' HS1.out).2.2 HI.out.1.2.2) (Kd.V_reads' HS1.out).2.1 HCK.out).mono ?_; rintro e w3 ⟨rfl, hb⟩; have n0_ := Aside0.mk (LInv_below HI.out hb); clear HI; have HI := n0_; clear n0_; (try clear hp0); (try clear hp1); have hp0 := LInv_p0 HI.out; have hp1 := LInv_p1 HI.out; clear hb)
      | (go_at_call 29; refine (edges_Add.calls k _ _ l0_0 a1 a2 y1 0 _ (Kd.C_below (Kd.V_reads' HS0.out).2.2 HI.out.1.2.2) (Kd.V_reads' HS0.out).2.1 HAD.out).mono ?_; rintro e w4 ⟨v4, rfl, ho, hb⟩; obtain ⟨A4, c4, rfl⟩ := Kd.R_slice ho; have HO4 := Aside0.mk (Kd.R_lower ho (below_size HI.out.1.2.2)); have n0_ := Aside0.mk (LInv_below HI.out hb); clear HI; have HI := n0_; clear n0_; (try clear hp0); (try clear hp1); have hp0 := LInv_p0 HI.out; have hp1 := LInv_p1 HI.out; clear hb; clear ho)
      | (go_at_call 30; refine (of_calls _ _ l0_1 _ (Kd.C_below (Kd.V_reads' HS1.out).2.2 HI.out.1.2.2) (by have := HL1.out; omega) HW1.out).mono ?_; rintro e w5 ⟨rfl, hs, hb⟩; have HS5 := Aside0.mk hs; have HB5 := Aside0.mk (below_size HI.out.1.2.2); have HO5 := Aside0.mk (Kd.R_below HO4.out hb); clear HO4; have n0_ := Aside0.mk (LInv_below HI.out hb); clear HI; have HI := n0_; clear n0_; (try clear hp0); (try clear hp1); have hp0 := LInv_p0 HI.out; have hp1 := LInv_p1 HI.out; clear hb; clear hs)
      | (go_at_call 31; refine (reached_calls _ _ _ a1 true _ HS5.out HWA.out ⟨fun _ => HY.out, fun _ => rfl⟩).mono ?_; rintro e w6 ⟨rfl, hb⟩; have HS6 := Aside0.mk (SetM_below HS5.out hb); have HO6 := Aside0.mk (Kd.R_below HO5.out hb); clear HS5 HO5; have n0_ := Aside0.mk (LInv_below HI.out hb); clear HI; have HI := n0_; clear n0_; (try clear hp0); (try clear hp1); have hp0 := LInv_p0 HI.out; have hp1 := LInv_p1 HI.out; clear hb)
      | (go_at_call 32; refine (has_calls _ _ _ a2 true _ HS6.out HWB.out ⟨fun _ => HM.out, fun _ => rfl⟩).mono ?_; rintro e w7 ⟨rfl, hb⟩; have HS7 := Aside0.mk (SetM_below HS6.out hb); have HO7 := Aside0.mk (Kd.R_below HO6.out hb); clear HS6 HO6; have n0_ := Aside0.mk (LInv_below HI.out hb); clear HI; have HI := n0_; clear n0_; (try clear hp0); (try clear hp1); have hp0 := LInv_p0 HI.out; have hp1 := LInv_p1 HI.out; clear hb)
      | (go_at_call 33; refine (slices_Clone_int_int.calls _ _ l0_1 l0_1 _ (Kd.C_below (Kd.V_reads' HS1.out).2.2 HI.out.1.2.2) (Kd.V_reads' HS1.out).2.1 (by unfold slices_Clone_int_int.f; rw [if_pos (by have := HL1.out; omega)])).mono ?_; rintro e w8 ⟨v8, rfl, ho, hb⟩; obtain ⟨A8, c8, rfl⟩ := Kd.R_slice ho; have HO8 := Aside0.mk (Kd.R_lower ho (below_size HI.out.1.2.2)); have HO9 := Aside0.mk (Kd.R_below HO7.out hb); have n0_ := Aside0.mk (LInv_below HI.out hb); clear HI; have HI := n0_; clear n0_; (try clear hp0); (try clear hp1); have hp0 := LInv_p0 HI.out; have hp1 := LInv_p1 HI.out; clear hb; clear ho; have hc0 := LInv_c0 HI.out; have hc1 := LInv_c1 HI.out; have hf0 := LInv_f0 HI.out; have hf1 := LInv_f1 HI.out))
     refine bodyPost_ret (results_list (rs := [.cell 6 25, .tmp 7, .tmp 8]) rfl (by simp) (.cell g6 25 #[.slice A4 y1.length c4, .slice A8 l0_1.length c8] (0, 0) _ rfl (by refine blk_put (cs := #[.slice A4 y1.length c4, .slice none 0 0]) ?_ 1 _ rfl; refine blk_put (cs := #[.slice none 0 0, .slice none 0 0]) ?_ 0 _ rfl; exact HI.out.1.1) Try.underlying25 rfl (by kernel_rfl) (.tmp (.tmp .nil)))) rfl ?_
     have hBf := fun (u u' : Value) => below_set (j := 1) (v := u') (below_set (j := 0) (v := u) HI.out.1.2.2 HI.out.1.2.1) HI.out.1.2.1
     exact ⟨_, _, _, rfl, Kd.V_mono (Kd.R_V (Kd.R_bound (R_far2 HO9.out HI.out.1.1 (by decide) _ _))) (fun k hk => ⟨.inr hk.2.1, (fun e => by cases e)⟩), Kd.V_mono (Kd.R_V (Kd.R_bound (R_far2 HO8.out HI.out.1.1 (by decide) _ _))) (fun k hk => ⟨.inr hk.2.1, (fun e => by cases e)⟩), Kd.R_nil _ _ _ _ _, hBf _ _⟩
    case neg =>
     have HM := Aside0.mk hm
     rw [if_neg (by intro hh; rcases hh with hh | hh; exact hh hra; exact hm hh)] at h
     simp only [Prod.mk.injEq] at h
     obtain ⟨rfl, rfl, rfl, rfl⟩ := h
     clear hra hm
     go_enter Try.func11, Try.ntmps11
     go_wp2_with (first
      | ((with_reducible refine gate_dst (N := 3) rfl ?_); refine box_event ?hg (N := 3) ?hd (cs := #[.slice A0_0 l0_0.length c0_0, .slice A0_1 l0_1.length c0_1]) (t := 25) ?hr ?_; (case hd => rfl); (case hg => rfl); (case hr => first | (go_simp; done) | (go_simp; rfl)); intro gp hgp w1 hbox hb; have HP1 := Aside0.mk hbox; have HB1 := Aside0.mk hb; have HGP := Aside0.mk hgp; clear hbox hb hgp)
      | ((with_reducible refine gate_dst (N := 6) rfl ?_); refine box_event ?hg (N := 6) ?hd (cs := #[.slice none 0 0, .slice none 0 0]) (t := 25) ?hr ?_; (case hd => rfl); (case hg => rfl); (case hr => first | (go_simp; done) | (go_simp; rfl)); intro g6 hg6 w2 hbox hb; have HI := Aside0.mk (LInv_new HB1.out HP1.out HGP.out hg6 hbox hb); clear hbox hb hg6; have hp0 := LInv_p0 HI.out; have hp1 := LInv_p1 HI.out)
      | (go_at_call 26; refine (reach_Check.calls k _ _ l0_0 _ _ l0_1 0 _ (Kd.C_below (Kd.V_reads' HS0.out).2.2 HI.out.1.2.2) (Kd.V_reads' HS0.out).2.1 (Kd.C_below (Kd.V_reads' HS1.out).2.2 HI.out.1.2.2) (Kd.V_reads' HS1.out).2.1 HCK.out).mono ?_; rintro e w3 ⟨rfl, hb⟩; have n0_ := Aside0.mk (LInv_below HI.out hb); clear HI; have HI := n0_; clear n0_; (try clear hp0); (try clear hp1); have hp0 := LInv_p0 HI.out; have hp1 := LInv_p1 HI.out; clear hb)
      | (go_at_call 29; refine (edges_Add.calls k _ _ l0_0 a1 a2 y1 0 _ (Kd.C_below (Kd.V_reads' HS0.out).2.2 HI.out.1.2.2) (Kd.V_reads' HS0.out).2.1 HAD.out).mono ?_; rintro e w4 ⟨v4, rfl, ho, hb⟩; obtain ⟨A4, c4, rfl⟩ := Kd.R_slice ho; have HO4 := Aside0.mk (Kd.R_lower ho (below_size HI.out.1.2.2)); have n0_ := Aside0.mk (LInv_below HI.out hb); clear HI; have HI := n0_; clear n0_; (try clear hp0); (try clear hp1); have hp0 := LInv_p0 HI.out; have hp1 := LInv_p1 HI.out; clear hb; clear ho)
      | (go_at_call 30; refine (of_calls _ _ l0_1 _ (Kd.C_below (Kd.V_reads' HS1.out).2.2 HI.out.1.2.2) (by have := HL1.out; omega) HW1.out).mono ?_; rintro e w5 ⟨rfl, hs, hb⟩; have HS5 := Aside0.mk hs; have HB5 := Aside0.mk (below_size HI.out.1.2.2); have HO5 := Aside0.mk (Kd.R_below HO4.out hb); clear HO4; have n0_ := Aside0.mk (LInv_below HI.out hb); clear HI; have HI := n0_; clear n0_; (try clear hp0); (try clear hp1); have hp0 := LInv_p0 HI.out; have hp1 := LInv_p1 HI.out; clear hb; clear hs)
      | (go_at_call 31; refine (reached_calls _ _ _ a1 true _ HS5.out HWA.out ⟨fun _ => HY.out, fun _ => rfl⟩).mono ?_; rintro e w6 ⟨rfl, hb⟩; have HS6 := Aside0.mk (SetM_below HS5.out hb); have HO6 := Aside0.mk (Kd.R_below HO5.out hb); clear HS5 HO5; have n0_ := Aside0.mk (LInv_below HI.out hb); clear HI; have HI := n0_; clear n0_; (try clear hp0); (try clear hp1); have hp0 := LInv_p0 HI.out; have hp1 := LInv_p1 HI.out; clear hb)
      | (go_at_call 32; refine (has_calls _ _ _ a2 false _ HS6.out HWB.out ⟨(fun h => by cases h), fun h => absurd h HM.out⟩).mono ?_; rintro e w7 ⟨rfl, hb⟩; have HS7 := Aside0.mk (SetM_below HS6.out hb); have HO7 := Aside0.mk (Kd.R_below HO6.out hb); clear HS6 HO6; have n0_ := Aside0.mk (LInv_below HI.out hb); clear HI; have HI := n0_; clear n0_; (try clear hp0); (try clear hp1); have hp0 := LInv_p0 HI.out; have hp1 := LInv_p1 HI.out; clear hb))
     refine (add_calls _ _ _ a2 _ HS7.out HWB.out (by have := HL1.out; omega)).mono ?_
     rintro e w8 ⟨rfl, hs8, hg8⟩
     have n0_ := Aside0.mk (LInv_grown HI.out hg8 HB5.out (SetM_ne HS7.out HI.out.1.1) (SetM_ne HS7.out HI.out.2.1))
     have HO8 := Aside0.mk (R_offSet HS7.out HO7.out hg8)
     have HS8 := Aside0.mk hs8
     clear HI hp0 hp1
     have HI := n0_
     clear n0_ hs8 hg8 HS7 HO7
     go_wp2_with (first
      | (go_at_call 35; refine (paths_calls _ _ y1 _ (Kd.R_reads' HO8.out).2.2 (by have := HL0.out; omega) HW0.out).mono ?_; rintro e w9 ⟨nb, bb, rfl, hb, hN1, hN2⟩; have HS9 := Aside0.mk (SetM_below HS8.out hb); have HO9 := Aside0.mk (Kd.R_below HO8.out hb); have HN9 := Aside0.mk hN1; have HZ9 := Aside0.mk hb.size; have HL8 := Aside0.mk (SetM_lt HS8.out); have n0_ := Aside0.mk (LInv_below HI.out hb); clear HI; have HI := n0_; clear n0_ hb hN1 hN2 HO8 HS8))
     have hb4 : Below w9.heap.size w9 (w9.alloc (.cells #[.int .i64 a2] 3)) := below_alloc (Below.refl _ _) _
     refine (spread_calls w nb bb (w8.heap.size + 1) w9.heap.size w4.heap.size (l0_1.length + 1) (NextF y1) (fun y => y ∈ l0_1 ∨ y = a2) (fun k => k = w9.heap.size) _ [a2] (y1.map (·.f1)) _ (NextOK_kept HN9.out (fun k _ h2 => Below.heap_alloc w9 _ k h2)) (by simp) (SetM_below HS9.out hb4) (by have := HL8.out; omega) (by rintro k rfl; omega) (R_one w9 a2 w.heap.size (below_size HI.out.1.2.2)) (LInv_below HI.out hb4).1.2.2 HB5.out (fun x hx => by rw [List.mem_singleton] at hx; subst hx; exact HWB.out) (fun a x hx => NextF_U a x hx) (U_wf HW0.out) (fun a => by have := selE_len (·.f0) (·.f1) y1 a; have := HL0.out; unfold NextF; omega) (by have := HL0.out; simp; omega) (by simp) (by have := HL1.out; omega)).mono ?_
     have HB4 := Aside0.mk hb4
     clear hb4
     rintro e w10 ⟨bc, C, rfl, hs1, hs2, hR, hCl, hbc, hne, hB0, hk⟩
     have hg6lt : g6 < w9.heap.size := blk_lt HI.out.1.1
     have hgplt : gp < w9.heap.size := blk_lt HI.out.2.1
     have HO10 := Aside0.mk (R_past HS9.out HO9.out HB4.out hk)
     have HI10 := Aside0.mk (LInv_kept (LInv_below HI.out HB4.out) hk (fun e => e.elim (fun e => SetM_ne HS9.out HI.out.1.1 e.symm) (fun e => by omega)) (fun e => e.elim (fun e => SetM_ne HS9.out HI.out.2.1 e.symm) (fun e => by omega)) hB0)
     have HB10 := Aside0.mk (below_size HI10.out.1.2.2)
     have HBC := Aside0.mk (show w.heap.size ≤ bc from Nat.le_trans (below_size (LInv_below HI.out HB4.out).1.2.2) hbc)
     have HS10 := Aside0.mk hs1
     have HC10 := Aside0.mk hs2
     have HCL := Aside0.mk (show C.length ≤ 1000000 by have := HL0.out; simp at hCl; omega)
     have HMEM := Aside0.mk (fun x => (hR x).trans ((Rch_congr (fun y => by rw [List.mem_append, List.mem_singleton]) (fun y => Iff.rfl) x).symm.trans (mem_spreadF y1 (l0_1 ++ [a2]) [a2] x).symm) : ∀ x, x ∈ C ↔ x ∈ spreadF y1 (l0_1 ++ [a2]) [a2])
     have HNE := Aside0.mk hne
     clear hs1 hs2 hR hCl hbc hne hB0 hk HI HB4 HS9 HO9 HN9 hg6lt hgplt
     go_wp2_with (fail)
     refine (add_calls _ _ _ a2 _ HC10.out HWB.out (by have := HCL.out; omega)).mono ?_
     rintro e w11 ⟨rfl, hs, hg⟩
     have HI := Aside0.mk (LInv_grown HI10.out hg HBC.out (SetM_ne HC10.out HI10.out.1.1) (SetM_ne HC10.out HI10.out.2.1))
     have HO11 := Aside0.mk (R_offSet HC10.out HO10.out hg)
     have HC11 := Aside0.mk hs
     have HS11 := Aside0.mk (SetM_grown HS10.out hg (fun e => HNE.out (Option.some.inj e).symm))
     have HB11 := Aside0.mk (below_size HI.out.1.2.2)
     clear hs hg HI10 HO10 HC10 HS10
     go_wp2_with (fail)
     refine (rising_calls _ _ _ (riseI (l0_1 ++ a2 :: spreadF y1 (l0_1 ++ [a2]) [a2])) _ HS11.out (by have := HCL.out; have := HL1.out; omega) (riseI_sorted _) (fun x => by rw [mem_riseI, List.mem_append, List.mem_cons, ← HMEM.out x, or_assoc])).mono ?_
     rintro e w12 ⟨v12, rfl, ho, hb⟩
     obtain ⟨A12, c12, rfl⟩ := Kd.R_slice ho
     have HO12 := Aside0.mk (Kd.R_lower ho HB11.out)
     have HY12 := Aside0.mk (Kd.R_below HO11.out hb)
     have HC12 := Aside0.mk (SetM_below HC11.out hb)
     have n0_ := Aside0.mk (LInv_below HI.out hb)
     clear HI HS11 HC11 HO11 ho hb
     have HI := n0_
     have HB12 := Aside0.mk (below_size HI.out.1.2.2)
     clear n0_
     go_wp2_with (fail)
     refine (rising_calls _ _ _ (riseI (a2 :: spreadF y1 (l0_1 ++ [a2]) [a2])) _ HC12.out (by have := HCL.out; omega) (riseI_sorted _) (fun x => by rw [mem_riseI, List.mem_cons, ← HMEM.out x]; exact or_comm)).mono ?_
     rintro e w13 ⟨v13, rfl, ho, hb⟩
     obtain ⟨A13, c13, rfl⟩ := Kd.R_slice ho
     have HR13 := Aside0.mk ho
     have HO13 := Aside0.mk (Kd.R_lower ho HB12.out)
     have HL13 := Aside0.mk (Kd.R_below (Kd.R_bound HO12.out) hb)
     have HY13 := Aside0.mk (Kd.R_below (Kd.R_bound HY12.out) hb)
     have n0_ := Aside0.mk (LInv_below HI.out hb)
     clear HI HC12 HO12 HY12 ho hb
     have HI := n0_
     clear n0_
     have hc0 := LInv_c0 HI.out
     have hc1 := LInv_c1 HI.out
     have hf0 := LInv_f0 HI.out
     have hf1 := LInv_f1 HI.out
     go_wp2_with (fail)
     refine bodyPost_ret (results_list (rs := [.cell 6 25, .tmp 7, .tmp 8]) rfl (by simp) (.cell g6 25 #[.slice A4 y1.length c4, .slice A12 (riseI (l0_1 ++ a2 :: spreadF y1 (l0_1 ++ [a2]) [a2])).length c12] (0, 0) _ rfl (by refine blk_put (cs := #[.slice A4 y1.length c4, .slice none 0 0]) ?_ 1 _ rfl; refine blk_put (cs := #[.slice none 0 0, .slice none 0 0]) ?_ 0 _ rfl; exact HI.out.1.1) Try.underlying25 rfl (by kernel_rfl) (.tmp (.tmp .nil)))) rfl ?_
     have hBf := fun (u u' : Value) => below_set (j := 1) (v := u') (below_set (j := 0) (v := u) HI.out.1.2.2 HI.out.1.2.1) HI.out.1.2.1
     have own3 := fun k (e : some k = (Value.slice A13 (riseI (a2 :: spreadF y1 (l0_1 ++ [a2]) [a2])).length c13).ownBlock) => ((Kd.R_bound HR13.out).1 k e.symm).2.1
     exact ⟨_, _, _, rfl, Kd.V_mono (Kd.R_V (R_far2 HY13.out HI.out.1.1 (by decide) _ _)) (fun k hk => ⟨.inr hk.2.1, fun e => by have := own3 k e; have := hk.2.2.1; omega⟩), Kd.V_mono (Kd.R_V (R_far2 HL13.out HI.out.1.1 (by decide) _ _)) (fun k hk => ⟨.inr hk.2.1, fun e => by have := own3 k e; have := hk.2.2.1; omega⟩), Kd.R_mono (Kd.R_bound (R_far2 HO13.out HI.out.1.1 (by decide) _ _)) (fun k hk => hk.2.1), hBf _ _⟩
/-! #### reach.Unlink: what it calls -/
set_option maxRecDepth 100000 in
/-- slices.Index at integers. -/
theorem index_calls (A0 : Option Addr) (c0 : Nat) (l : List Int) (x : Int) (w : World) (hr : Kd.C (Kd.int .i64) w A0 l.length l) (hl : l.length ≤ 1000000000) :
  Calls Try.prog 56 #[.slice A0 l.length c0, .int .i64 x] w fun e w' => ∃ r : Int, e = .returned (.int .i64 r) ∧ (0 ≤ r ↔ x ∈ l) ∧ Below w.heap.size w w' := by
 have HR0 := Aside0.mk hr
 have HL := Aside0.mk hl
 have hl63 : l.length ≤ 9223372036854775807 := by omega
 have HB := Aside0.mk (Below.refl w.heap.size w)
 clear hr hl
 go_enter Try.func56, Try.ntmps56
 go_wp2
 go_loopw [8] (fun v8 wr => ∃ (j : Nat) (jv : Int), j ≤ l.length ∧ jv = (j : Int) ∧ v8 = .int .i64 jv ∧ Aside0 (∀ y ∈ l.take j, y ≠ x) ∧ Aside0 (Below w.heap.size w wr)) (fun v8 _ => l.length - (intOf v8).toNat)
 case atStart => exact ⟨0, 0, by omega, rfl, rfl, ⟨fun y hy => by simp at hy⟩, HB⟩
 case round =>
  clear HB
  obtain ⟨j, jv, hj, hjv, rfl, HM, HB⟩ := hrel
  by_cases hlt : j < l.length
  case neg =>
   have hnl : ¬ (jv < (l.length : Int)) := by omega
   have hM := HM.out
   rw [List.take_of_length_le (by omega)] at hM
   have HM := Aside0.mk hM
   clear hM
   go_wp2
   go_ret
   exact ⟨_, rfl, ⟨(fun h => by omega), fun h => absurd rfl (HM.out x h)⟩, HB.out⟩
  case pos =>
   have p0 : (0 : Int) ≤ jv := by omega
   have q0 : jv < (l.length : Int) := by omega
   obtain ⟨ad, ead, hx⟩ := Kd.at_int (Kd.C_below HR0.out HB.out) jv p0 q0
   cases ead
   have hrd : rd l jv = l[j] := by rw [hjv]; simp [rd, List.getD_eq_getElem?_getD, hlt]
   obtain ⟨y, hye⟩ : ∃ y, y = l[j] := ⟨_, rfl⟩
   rw [hrd, ← hye] at hx
   have htk : l.take (j + 1) = l.take j ++ [y] := by rw [List.take_succ_eq_append_getElem hlt, hye]
   have HMY := Aside0.mk (show y ∈ l by rw [hye]; exact List.getElem_mem hlt)
   have HTK := Aside0.mk htk
   have Hjv := Aside0.mk hjv
   have Hlt := Aside0.mk hlt
   have HP0 := Aside0.mk p0
   by_cases hxy : x = y
   case pos =>
    have d0 : (x == y) = true := by simpa using hxy
    have HXY := Aside0.mk hxy
    clear hrd hye htk hjv hj hlt hxy
    go_wp2
    go_ret
    exact ⟨_, rfl, ⟨fun _ => HXY.out ▸ HMY.out, fun _ => HP0.out⟩, HB.out⟩
   case neg =>
    have d0 : (x == y) = false := by simpa using hxy
    have HXY := Aside0.mk hxy
    clear hrd hye htk hjv hj hlt hxy
    go_wp2
    refine ⟨⟨j + 1, jv + 1, by have := Hlt.out; omega, by have := Hjv.out; omega, rfl, ⟨fun z hz => by
     rw [HTK.out, List.mem_append, List.mem_singleton] at hz
     rcases hz with hz | rfl
     ·exact HM.out z hz
     ·exact fun e => HXY.out e.symm⟩, HB⟩, ?_⟩
    show l.length - (jv + 1).toNat < l.length - jv.toNat
    have := Hjv.out
    have := Hlt.out
    omega
set_option maxRecDepth 100000 in
/-- slices.Contains at integers. -/
theorem contains_calls (A0 : Option Addr) (c0 : Nat) (l : List Int) (x : Int) (r : Bool) (w : World) (hr : Kd.C (Kd.int .i64) w A0 l.length l) (hl : l.length ≤ 1000000000) (h : r = true ↔ x ∈ l) :
  Calls Try.prog 45 #[.slice A0 l.length c0, .int .i64 x] w fun e w' => e = .returned (.bool r) ∧ Below w.heap.size w w' := by
 have HR0 := Aside0.mk hr
 have HL := Aside0.mk hl
 have HH := Aside0.mk h
 clear hr hl h
 go_enter Try.func45, Try.ntmps45
 go_wp2_with (first | (go_at_call 56; refine (index_calls _ _ l x _ HR0.out HL.out).mono ?_; rintro e w1 ⟨i, rfl, hi, hb⟩; have HI := Aside0.mk hi; have HB := Aside0.mk hb; clear hi hb))
 go_ret
 exact ⟨by rw [show decide (0 ≤ i) = r by rw [Bool.eq_iff_iff, decide_eq_true_iff, HI.out, HH.out]]; rfl, HB.out⟩
set_option maxRecDepth 100000 in
/-- The function that ContainsFunc is given. -/
theorem holds_calls (g bl n : Nat) (M : Int → Prop) (x : Int) (r : Bool) (w : World) (hg : w.heap[g]? = some (.cells #[.map (some bl)] 57 (0, 0))) (hs : SetM w bl n M) (hx : wfI x) (hr : r = true ↔ (x = -1 ∨ M x)) :
  Calls Try.prog 44 #[.int .i64 x, .pointer (some ⟨g, 0, none⟩)] w fun e w' => e = .returned (.bool r) ∧ Below w.heap.size w w' := by
 have HS := Aside0.mk hs
 have HX := Aside0.mk hx
 have HR := Aside0.mk hr
 have hc : w.cell? ⟨g, 0, none⟩ = some (.map (some bl)) := (blk_cell hg 0).trans rfl
 clear hs hx hr hg
 go_enter Try.func44, Try.ntmps44
 go_wp2_with (first | (go_at_call 31; refine (reached_calls bl n M x r _ HS.out HX.out HR.out).mono ?_; rintro e w1 ⟨rfl, hb⟩; have HB := Aside0.mk hb; clear hb))
 go_ret
 exact ⟨rfl, HB.out⟩
set_option maxRecDepth 100000 in
/-- slices.IndexFunc at it. -/
theorem indexFunc_calls (A0 : Option Addr) (c0 : Nat) (l : List Int) (g bl n : Nat) (M : Int → Prop) (w : World) (hr : Kd.C (Kd.int .i64) w A0 l.length l) (hl : l.length ≤ 1000000000) (hw : ∀ x ∈ l, wfI x)
  (hg : w.heap[g]? = some (.cells #[.map (some bl)] 57 (0, 0))) (hs : SetM w bl n M) :
  Calls Try.prog 55 #[.slice A0 l.length c0, .func (.func 44) #[] #[.pointer (some ⟨g, 0, none⟩)]] w fun e w' => ∃ r : Int, e = .returned (.int .i64 r) ∧ (0 ≤ r ↔ ∃ p ∈ l, p = -1 ∨ M p) ∧ Below w.heap.size w w' := by
 have HR0 := Aside0.mk hr
 have HL := Aside0.mk hl
 have HG := Aside0.mk hg
 have HS := Aside0.mk hs
 have HW := Aside0.mk hw
 have hl63 : l.length ≤ 9223372036854775807 := by omega
 have HB := Aside0.mk (Below.refl w.heap.size w)
 clear hr hl hg hs hw
 go_enter Try.func55, Try.ntmps55
 go_wp2
 go_loopw [8] (fun v8 wr => ∃ (j : Nat) (jv : Int), j ≤ l.length ∧ jv = (j : Int) ∧ v8 = .int .i64 jv ∧ Aside0 (∀ y ∈ l.take j, ¬ (y = -1 ∨ M y)) ∧ Aside0 (Below w.heap.size w wr)) (fun v8 _ => l.length - (intOf v8).toNat)
 case atStart => exact ⟨0, 0, by omega, rfl, rfl, ⟨fun y hy => by simp at hy⟩, HB⟩
 case round =>
  clear HB
  obtain ⟨j, jv, hj, hjv, rfl, HM, HB⟩ := hrel
  by_cases hlt : j < l.length
  case neg =>
   have hnl : ¬ (jv < (l.length : Int)) := by omega
   have hM := HM.out
   rw [List.take_of_length_le (by omega)] at hM
   have HM := Aside0.mk hM
   clear hM
   go_wp2
   go_ret
   exact ⟨_, rfl, ⟨(fun h => by omega), fun ⟨p, hp, h⟩ => absurd h (HM.out p hp)⟩, HB.out⟩
  case pos =>
   have p0 : (0 : Int) ≤ jv := by omega
   have q0 : jv < (l.length : Int) := by omega
   obtain ⟨ad, ead, hx⟩ := Kd.at_int (Kd.C_below HR0.out HB.out) jv p0 q0
   cases ead
   have hrd : rd l jv = l[j] := by rw [hjv]; simp [rd, List.getD_eq_getElem?_getD, hlt]
   obtain ⟨y, hye⟩ : ∃ y, y = l[j] := ⟨_, rfl⟩
   rw [hrd, ← hye] at hx
   have htk : l.take (j + 1) = l.take j ++ [y] := by rw [List.take_succ_eq_append_getElem hlt, hye]
   have HMY := Aside0.mk (show y ∈ l by rw [hye]; exact List.getElem_mem hlt)
   have HTK := Aside0.mk htk
   have Hjv := Aside0.mk hjv
   have Hlt := Aside0.mk hlt
   have HP0 := Aside0.mk p0
   by_cases hxy : y = -1 ∨ M y
   case pos =>
    have HXY := Aside0.mk hxy
    clear hrd hye htk hjv hj hlt hxy
    go_wp2_with (first | (go_at_call 44; refine (holds_calls g bl n M y true _ (blk_below HG.out HB.out) (SetM_below HS.out HB.out) (HW.out _ HMY.out) ⟨fun _ => HXY.out, fun _ => rfl⟩).mono ?_; rintro e w1 ⟨rfl, hb⟩; have HB1 := Aside0.mk (below_step HB.out hb); clear hb))
    go_ret
    exact ⟨_, rfl, ⟨fun _ => ⟨y, HMY.out, HXY.out⟩, fun _ => HP0.out⟩, HB1.out⟩
   case neg =>
    have HXY := Aside0.mk hxy
    clear hrd hye htk hjv hj hlt hxy
    go_wp2_with (first | (go_at_call 44; refine (holds_calls g bl n M y false _ (blk_below HG.out HB.out) (SetM_below HS.out HB.out) (HW.out _ HMY.out) ⟨(fun h => by cases h), fun h => absurd h HXY.out⟩).mono ?_; rintro e w1 ⟨rfl, hb⟩; have HB1 := Aside0.mk (below_step HB.out hb); clear hb))
    refine ⟨⟨j + 1, jv + 1, by have := Hlt.out; omega, by have := Hjv.out; omega, rfl, ⟨fun z hz => by
     rw [HTK.out, List.mem_append, List.mem_singleton] at hz
     rcases hz with hz | rfl
     ·exact HM.out z hz
     ·exact HXY.out⟩, HB1⟩, ?_⟩
    show l.length - (jv + 1).toNat < l.length - jv.toNat
    have := Hjv.out
    have := Hlt.out
    omega
set_option maxRecDepth 100000 in
/-- slices.ContainsFunc at it. -/
theorem containsFunc_calls (A0 : Option Addr) (c0 : Nat) (l : List Int) (g bl n : Nat) (M : Int → Prop) (r : Bool) (w : World) (hr : Kd.C (Kd.int .i64) w A0 l.length l) (hl : l.length ≤ 1000000000) (hw : ∀ x ∈ l, wfI x)
  (hg : w.heap[g]? = some (.cells #[.map (some bl)] 57 (0, 0))) (hs : SetM w bl n M) (h : r = true ↔ ∃ p ∈ l, p = -1 ∨ M p) :
  Calls Try.prog 43 #[.slice A0 l.length c0, .func (.func 44) #[] #[.pointer (some ⟨g, 0, none⟩)]] w fun e w' => e = .returned (.bool r) ∧ Below w.heap.size w w' := by
 have HR0 := Aside0.mk hr
 have HL := Aside0.mk hl
 have HG := Aside0.mk hg
 have HS := Aside0.mk hs
 have HW := Aside0.mk hw
 have HH := Aside0.mk h
 clear hr hl hg hs hw h
 go_enter Try.func43, Try.ntmps43
 go_wp2_with (first | (go_at_call 55; refine (indexFunc_calls _ _ l g bl n M _ HR0.out HL.out HW.out HG.out HS.out).mono ?_; rintro e w1 ⟨i, rfl, hi, hb⟩; have HI := Aside0.mk hi; have HB := Aside0.mk hb; clear hi hb))
 go_ret
 exact ⟨by rw [show decide (0 ≤ i) = r by rw [Bool.eq_iff_iff, decide_eq_true_iff, HI.out, HH.out]]; rfl, HB.out⟩
/-! #### reach.Unlink: what it keeps -/
def doubtU (l : List S36) (b : Int) : List Int := b :: spreadF l [b] [b]
def live1U (l : List S36) (lv : List Int) (b : Int) : List Int := lv.filter (fun x => decide (x ∉ doubtU l b))
def sureP (l : List S36) (lv : List Int) (b n : Int) : Bool := (BackF l n).any (fun p => decide (p = -1 ∨ p ∈ live1U l lv b))
def sureU (l : List S36) (lv : List Int) (b : Int) : List Int := (riseI (doubtU l b)).filter (sureP l lv b)
def live2U (l : List S36) (lv : List Int) (b : Int) : List Int := live1U l lv b ++ sureU l lv b
def liveU (l : List S36) (lv : List Int) (b : Int) : List Int := live2U l lv b ++ spreadF l (live2U l lv b) (sureU l lv b)
def goneP (l : List S36) (lv : List Int) (b n : Int) : Bool := decide (n ∉ liveU l lv b ∧ n ∈ lv)
def goneU (l : List S36) (lv : List Int) (b : Int) : List Int := (riseI (doubtU l b)).filter (goneP l lv b)
def unlinkF (l : List S36) (lv : List Int) (a b m1 m2 : Int) : Option (List S36 × List Int × List Int × Int) :=
 if ¬ (a = -1 ∨ a ∈ lv) ∨ (m2 = 0 ∧ 0 < m1) then some (l, lv, [], 0) else if m2 = 0 then some (l, riseI (liveU l lv b), goneU l lv b, 0) else none
theorem sureP_iff {l : List S36} {lv : List Int} {b n : Int} : sureP l lv b n = true ↔ ∃ p ∈ BackF l n, p = -1 ∨ p ∈ live1U l lv b := by
 unfold sureP
 rw [List.any_eq_true]
 exact ⟨fun ⟨p, h, h2⟩ => ⟨p, h, by simpa using h2⟩, fun ⟨p, h, h2⟩ => ⟨p, h, by simpa using h2⟩⟩
theorem mem_live1U {l : List S36} {lv : List Int} {b x : Int} : x ∈ live1U l lv b ↔ x ∈ lv ∧ x ∉ doubtU l b := by
 unfold live1U
 rw [List.mem_filter, decide_eq_true_iff]
theorem take_filter_pos {l : List Int} {p : Int → Bool} {j : Nat} {x : Int} (h : l[j]? = some x) (hp : p x = true) : (l.take (j + 1)).filter p = (l.take j).filter p ++ [x] := by
 have hlt := (List.getElem?_eq_some_iff.1 h).1
 have e := (List.getElem?_eq_some_iff.1 h).2
 rw [List.take_succ_eq_append_getElem hlt, e, List.filter_append, List.filter_cons, if_pos hp, List.filter_nil]
theorem take_filter_neg {l : List Int} {p : Int → Bool} {j : Nat} {x : Int} (h : l[j]? = some x) (hp : p x = false) : (l.take (j + 1)).filter p = (l.take j).filter p := by
 have hlt := (List.getElem?_eq_some_iff.1 h).1
 have e := (List.getElem?_eq_some_iff.1 h).2
 rw [List.take_succ_eq_append_getElem hlt, e, List.filter_append, List.filter_cons, if_neg (by simp [hp]), List.filter_nil, List.append_nil]
theorem filter_take_len (l : List Int) (p : Int → Bool) (j : Nat) : ((l.take j).filter p).length ≤ l.length := Nat.le_trans (List.length_filter_le _ _) (by rw [List.length_take]; omega)
theorem sameKey_i (y x : Int) : (Lit.int .i64 y).sameKey (.int .i64 x) = decide (y = x) := by
 by_cases h : y = x
 ·subst h
  simp [Lit.sameKey]
 ·simp [Lit.sameKey, h]
/-- delete(s, x). -/
theorem SetM_del {w' : World} {b n : Nat} {M : Int → Prop} {D : DataW Unit} (hM : ∀ y, Maps.has D (.int .i64 y) = true ↔ M y) {x : Int} (h : w'.ownsMap Try.prog 3 (unitElem (H := Unit)) b n (D.del (.int .i64 x))) : SetM w' b n (fun y => M y ∧ y ≠ x) := by
 refine ⟨_, h, fun y => ?_⟩
 by_cases hy : y = x
 ·subst hy
  rw [Maps.has_del_same]
  simp
 ·rw [Maps.has_del_other (fun e => hy (by injection e)), hM]
  simp [hy]
theorem box_any (w : World) (t : TypeId) (cs : Array Value) {W : World} (h : w.alloc (.cells cs t) = W) : W.heap[w.heap.size]? = some (.cells cs t (0, 0)) ∧ Below w.heap.size w W ∧ W.heap.size = w.heap.size + 1 := by
 subst h
 exact ⟨heap_alloc_new w _, below_alloc (Below.refl _ _) _, by simp⟩
theorem riseI_len (l : List Int) : (riseI l).length ≤ l.length := nodup_le ((riseI_sorted l).imp (fun h => by omega)) (fun x hx => mem_riseI.1 hx)
theorem doubtU_len (l : List S36) (b : Int) : (doubtU l b).length ≤ l.length + 1 := by
 unfold doubtU
 rw [List.length_cons]
 have := spreadF_len l [b] [b]
 omega
theorem doubtU_wf {l : List S36} {b x : Int} (h : ∀ e ∈ l, wfI e.f0 ∧ wfI e.f1) (hb : wfI b) (hx : x ∈ doubtU l b) : wfI x := by
 unfold doubtU at hx
 rcases List.mem_cons.1 hx with rfl | hx
 ·exact hb
 ·exact U_wf h x ((spreadF_inv l [b] [b]).2.1 x hx)
/-- Between Unlink's steps: its boxes, the edges' row, their ways. -/
def UInv (w wr : World) (g6 gp g12 g15 bl nb bb lo : Nat) (s0 s1 v4 : Value) (y1 : List S36) : Prop :=
 LInv w wr g6 gp s0 s1 ∧ wr.heap[g12]? = some (.cells #[.map (some bl)] 57 (0, 0)) ∧ wr.heap[g15]? = some (.cells #[.map (some nb), .map (some bb)] 65 (0, 0)) ∧
  NextOK wr lo g15 nb (NextF y1) ∧ NextOK wr lo g15 bb (BackF y1) ∧ Kd.R k36 36 wr w.heap.size (fun k => k < lo ∧ k ≠ bl) v4 y1 ∧
  (g6 < lo ∧ gp < lo ∧ g12 < lo ∧ (lo ≤ g15 + 1 ∧ bl < g15) ∧ g6 ≠ bl ∧ gp ≠ bl ∧ g12 ≠ bl ∧ bl < lo ∧ w.heap.size ≤ bl)
section
variable {w wr w' : World} {g6 gp g12 g15 bl nb bb lo : Nat} {s0 s1 v4 : Value} {y1 : List S36}
theorem UInv_kept {S : Nat → Prop} (h : UInv w wr g6 gp g12 g15 bl nb bb lo s0 s1 v4 y1) (hk : Kept wr w' S) (hS : ∀ k, S k → k = bl ∨ g15 < k) (hb : Below w.heap.size w w') : UInv w w' g6 gp g12 g15 bl nb bb lo s0 s1 v4 y1 := by
 obtain ⟨h1, h2, h3, h4, h5, h6, p1, p2, p3, p4, p5, p6, p7, p8, p9⟩ := h
 have hn : ∀ k, lo ≤ k → k < g15 → ¬ S k := fun k k1 k2 hk => by
  have := hS k hk
  omega
 have hg := blk_lt h3
 refine ⟨LInv_kept h1 hk (fun e => by have := hS _ e; omega) (fun e => by have := hS _ e; omega) hb, blk_kept h2 hk (fun e => by have := hS _ e; omega), blk_kept h3 hk (fun e => by have := hS _ e; omega), NextOK_kept h4 (fun k k1 k2 => hk.2 k (by omega) (hn k k1 k2)), NextOK_kept h5 (fun k k1 k2 => hk.2 k (by omega) (hn k k1 k2)), Kd.R_kept h6 hk (fun k hk e => by have := hS _ e; omega), p1, p2, p3, p4, p5, p6, p7, p8, p9⟩
theorem UInv_below (h : UInv w wr g6 gp g12 g15 bl nb bb lo s0 s1 v4 y1) (hb : Below wr.heap.size wr w') : UInv w w' g6 gp g12 g15 bl nb bb lo s0 s1 v4 y1 :=
 UInv_kept h (Kept.of_below hb (fun _ => False)) (fun _ e => e.elim) (below_step h.1.1.2.2 hb)
theorem UInv_grown {b : Nat} (h : UInv w wr g6 gp g12 g15 bl nb bb lo s0 s1 v4 y1) (hg : wr.grownBy w' (some b)) (hb : b = bl ∨ g15 < b) : UInv w w' g6 gp g12 g15 bl nb bb lo s0 s1 v4 y1 := by
 have hp := h.2.2.2.2.2.2
 have hB := h.1.1.2.2
 exact UInv_kept (S := fun k => k = b) h (Kept.of_grown hg (Kept.refl _ _) (fun k hk => by cases hk; exact .inl rfl)) (fun k e => by subst e; exact hb) (Below.grown hB hg (below_size hB) (fun k hk => by cases hk; omega))
theorem UInv_row {row : Option Nat} (h : UInv w wr g6 gp g12 g15 bl nb bb lo s0 s1 v4 y1) (hg : wr.grownBy w' row) (hr : ∀ k, row = some k → g15 < k) : UInv w w' g6 gp g12 g15 bl nb bb lo s0 s1 v4 y1 := by
 have hp := h.2.2.2.2.2.2
 have hB := h.1.1.2.2
 exact UInv_kept (S := fun k => row = some k) h (Kept.of_grown hg (Kept.refl _ _) (fun k hk => .inl hk)) (fun k e => .inr (hr k e)) (Below.grown hB hg (below_size hB) (fun k hk => by have := hr k hk; omega))
theorem UInv_bl (h : UInv w wr g6 gp g12 g15 bl nb bb lo s0 s1 v4 y1) : bl < lo ∧ (lo ≤ g15 + 1 ∧ bl < g15) ∧ w.heap.size ≤ bl := ⟨h.2.2.2.2.2.2.2.2.2.2.2.2.2.1, h.2.2.2.2.2.2.2.2.2.1, h.2.2.2.2.2.2.2.2.2.2.2.2.2.2⟩
theorem UInv_g15 (h : UInv w wr g6 gp g12 g15 bl nb bb lo s0 s1 v4 y1) : g15 < wr.heap.size := blk_lt h.2.2.1
theorem UInv_size (h : UInv w wr g6 gp g12 g15 bl nb bb lo s0 s1 v4 y1) : w.heap.size ≤ wr.heap.size := below_size h.1.1.2.2
theorem UInv_z12 (h : UInv w wr g6 gp g12 g15 bl nb bb lo s0 s1 v4 y1) : wr.cell? ⟨g12, 0, none⟩ = some (.map (some bl)) := (blk_cell h.2.1 0).trans rfl
theorem UInv_z15 (h : UInv w wr g6 gp g12 g15 bl nb bb lo s0 s1 v4 y1) : wr.cell? ⟨g15, 0, none⟩ = some (.map (some nb)) ∧ wr.cell? ⟨g15, 1, none⟩ = some (.map (some bb)) := ⟨(blk_cell h.2.2.1 0).trans rfl, (blk_cell h.2.2.1 1).trans rfl⟩
theorem UInv_look (h : UInv w wr g6 gp g12 g15 bl nb bb lo s0 s1 v4 y1) {x : Int} (hx : wfI x) : ∃ A c, (BackF y1 x).length ≤ c ∧ (∀ z ∈ BackF y1 x, wfI z) ∧ (Instr.lookup 63 (.map (some bb)) (.int .i64 x) false).run Try.prog wr = .ok (.slice A (BackF y1 x).length c) wr ∧ Kd.C (Kd.int .i64) wr A (BackF y1 x).length (BackF y1 x) := by
 obtain ⟨A, c, h1, h2, h3⟩ := h.2.2.2.2.1 x hx
 exact ⟨A, c, h1, h2, h3 wr (fun _ _ _ => rfl)⟩
theorem UInv_mk {w8 w9 W : World} {n : Nat} {M : Int → Prop} {ok : Nat → Prop} (hI : LInv w w8 g6 gp s0 s1) (h12 : w8.heap[g12]? = some (.cells #[.map (some bl)] 57 (0, 0))) (hO : Kd.R k36 36 w8 w.heap.size ok v4 y1) (hS : SetM w8 bl n M)
  (hbl : w.heap.size ≤ bl) (hb : Below w8.heap.size w8 w9) (hN1 : NextOK w9 (w8.heap.size + 1) w9.heap.size nb (NextF y1)) (hN2 : NextOK w9 (w8.heap.size + 1) w9.heap.size bb (BackF y1))
  (hW : w9.alloc (.cells #[.map (some nb), .map (some bb)] 65) = W) : UInv w W g6 gp g12 w9.heap.size bl nb bb (w8.heap.size + 1) s0 s1 v4 y1 := by
 obtain ⟨q1, q2, _⟩ := box_any w9 _ _ hW
 have hk : ∀ k, w8.heap.size + 1 ≤ k → k < w9.heap.size → W.heap[k]? = w9.heap[k]? := fun k _ h2 => q2.block k h2
 have l1 := blk_lt hI.1.1
 have l2 := blk_lt hI.2.1
 have l3 := blk_lt h12
 have l4 := SetM_lt hS
 have l5 := hb.size
 refine ⟨LInv_below (LInv_below hI hb) q2, blk_below (blk_below h12 hb) q2, q1, NextOK_kept hN1 hk, NextOK_kept hN2 hk, ?_, by omega, by omega, by omega, ⟨by omega, by omega⟩, fun e => SetM_ne hS hI.1.1 e.symm, fun e => SetM_ne hS hI.2.1 e.symm, fun e => SetM_ne hS h12 e.symm, by omega, hbl⟩
 refine Kd.R_below (Kd.R_below (Kd.R_mono (Kd.R_bound hO) (fun k hk => ⟨by have := hk.2.2.1; omega, fun e_ => ?_⟩)) hb) q2
 obtain ⟨_, _, _, q, _, cells, hc⟩ := hk
 exact SetM_ne hS hc e_.symm
end
/-! #### reach.Unlink -/
def reach_Unlink.f (k : Nat) (l0_0 : List (S36)) (l0_1 : List Int) (a1 : Int) (a2 : Int) : Option (List (S36) × List Int × List Int × Int) :=
 (reach_Check.f k l0_0 l0_1).bind fun e => if e = 0 then ((edges_Drop.f k l0_0 a1 a2).bind fun y => if y.2 = 0 then ((edges_Many.f k y.1 a1 a2).bind fun m => if bndE y.1 = true ∧ bndI l0_1 = true ∧ bndI [a1, a2] = true then unlinkF y.1 l0_1 a1 a2 m.1 m.2 else none) else some (l0_0, l0_1, [], y.2)) else some (l0_0, l0_1, [], e)
theorem reach_Unlink.mono : ∀ a0 a1 a2 a3 k, LeO (reach_Unlink.f k a0 a1 a2 a3) (reach_Unlink.f (k + 1) a0 a1 a2 a3) := by
 intro a b c d k
 refine LeO.bind (reach_Check.mono _ _ _) (fun _ => ?_)
 refine LeO.ite ?_ (LeO.refl _)
 refine LeO.bind (edges_Drop.mono _ _ _ _) (fun _ => ?_)
 refine LeO.ite ?_ (LeO.refl _)
 exact LeO.bind (edges_Many.mono _ _ _ _) (fun _ => LeO.refl _)
set_option maxRecDepth 100000 in
set_option maxHeartbeats 8000000 in
theorem reach_Unlink.calls (k : Nat) (P0_0_ : Nat → Prop) (A0_0 : Option Addr) (c0_0 : Nat) (l0_0 : List (S36)) (P0_1_ : Nat → Prop) (A0_1 : Option Addr) (c0_1 : Nat) (l0_1 : List Int) (a1 : Int) (a2 : Int) (r1 : List (S36)) (r2 : List Int) (r3 : List Int) (r4 : Int) (w : World)
  (hs0_0 : Kd.V k36 36 w w.heap.size (fun k_ => P0_0_ k_) (.slice A0_0 l0_0.length c0_0) l0_0) (hs0_1 : Kd.V (Kd.int .i64) 3 w w.heap.size (fun k_ => P0_1_ k_) (.slice A0_1 l0_1.length c0_1) l0_1) (h : reach_Unlink.f k l0_0 l0_1 a1 a2 = some (r1, r2, r3, r4)) :
  Calls Try.prog 20 #[.agg #[.slice A0_0 l0_0.length c0_0, .slice A0_1 l0_1.length c0_1], .int .i64 a1, .int .i64 a2] w fun e w' => ∃ v0_ v1_ v2_ : Value, e = .returned (.tuple #[.agg #[v0_, v1_], v2_, .int .i64 r4]) ∧
   Kd.V k36 36 w' w.heap.size (fun k_ => (((P0_0_ k_ ∨ P0_1_ k_) ∨ w.heap.size ≤ k_) ∧ some k_ ≠ (v2_ : Value).ownBlock)) v0_ r1 ∧ Kd.V (Kd.int .i64) 3 w' w.heap.size (fun k_ => (((P0_0_ k_ ∨ P0_1_ k_) ∨ w.heap.size ≤ k_) ∧ some k_ ≠ (v2_ : Value).ownBlock)) v1_ r2 ∧ Kd.R (Kd.int .i64) 3 w' w.heap.size (fun k_ => (w.heap.size ≤ k_)) v2_ r3 ∧ Below w.heap.size w w' := by
 have HS0 := Aside0.mk hs0_0
 have HS1 := Aside0.mk hs0_1
 have huG := Try.underlying25
 unfold reach_Unlink.f at h
 obtain ⟨e, he, h⟩ := Option.bind_eq_some_iff.mp h
 have HCK := Aside0.mk he
 clear hs0_0 hs0_1 he
 by_cases hc : e = 0
 case neg =>
  rw [if_neg hc] at h
  simp only [Option.some.injEq, Prod.mk.injEq] at h
  obtain ⟨rfl, rfl, rfl, rfl⟩ := h
  have d0 : (e == 0) = false := by simpa using hc
  have d1 : (e != 0) = true := by simpa using hc
  clear hc
  go_enter Try.func20, Try.ntmps20
  go_wp2_with (first
   | ((with_reducible refine gate_dst (N := 3) rfl ?_); refine box_event ?hg (N := 3) ?hd (cs := #[.slice A0_0 l0_0.length c0_0, .slice A0_1 l0_1.length c0_1]) (t := 25) ?hr ?_; (case hd => rfl); (case hg => rfl); (case hr => first | (go_simp; done) | (go_simp; rfl)); intro gp hgp w1 hbox hb; have HP1 := Aside0.mk hbox; have HB1 := Aside0.mk hb; have HGP := Aside0.mk hgp; clear hbox hb hgp)
   | ((with_reducible refine gate_dst (N := 6) rfl ?_); refine box_event ?hg (N := 6) ?hd (cs := #[.slice none 0 0, .slice none 0 0]) (t := 25) ?hr ?_; (case hd => rfl); (case hg => rfl); (case hr => first | (go_simp; done) | (go_simp; rfl)); intro g6 hg6 w2 hbox hb; have HI := Aside0.mk (LInv_new HB1.out HP1.out HGP.out hg6 hbox hb); clear hbox hb hg6; have hp0 := LInv_p0 HI.out; have hp1 := LInv_p1 HI.out)
   | (go_at_call 26; refine (reach_Check.calls k _ _ l0_0 _ _ l0_1 e _ (Kd.C_below (Kd.V_reads' HS0.out).2.2 HI.out.1.2.2) (Kd.V_reads' HS0.out).2.1 (Kd.C_below (Kd.V_reads' HS1.out).2.2 HI.out.1.2.2) (Kd.V_reads' HS1.out).2.1 HCK.out).mono ?_; rintro e w3 ⟨rfl, hb⟩; have n0_ := Aside0.mk (LInv_below HI.out hb); clear HI; have HI := n0_; clear n0_; (try clear hp0); (try clear hp1); have hp0 := LInv_p0 HI.out; have hp1 := LInv_p1 HI.out; clear hb; have hc0 := LInv_c0 HI.out; have hc1 := LInv_c1 HI.out; have hf0 := LInv_f0 HI.out; have hf1 := LInv_f1 HI.out))
  refine bodyPost_ret (results_list (rs := [.cell 6 25, .tmp 7, .tmp 8]) rfl (by simp) (.cell g6 25 #[.slice A0_0 l0_0.length c0_0, .slice A0_1 l0_1.length c0_1] (0, 0) _ rfl (by refine blk_put (cs := #[.slice A0_0 l0_0.length c0_0, .slice none 0 0]) ?_ 1 _ rfl; refine blk_put (cs := #[.slice none 0 0, .slice none 0 0]) ?_ 0 _ rfl; exact HI.out.1.1) Try.underlying25 rfl (by kernel_rfl) (.tmp (.tmp .nil)))) rfl ?_
  have hBf := fun (u u' : Value) => below_set (j := 1) (v := u') (below_set (j := 0) (v := u) HI.out.1.2.2 HI.out.1.2.1) HI.out.1.2.1
  exact ⟨_, _, _, rfl, Kd.V_mono (Kd.V_below HS0.out (hBf _ _)) (fun k hk => ⟨.inl (.inl hk), (fun e => by cases e)⟩), Kd.V_mono (Kd.V_below HS1.out (hBf _ _)) (fun k hk => ⟨.inl (.inr hk), (fun e => by cases e)⟩), Kd.R_nil _ _ _ _ _, hBf _ _⟩
 case pos =>
  subst hc
  rw [if_pos rfl] at h
  obtain ⟨⟨y1, y2⟩, hy, h⟩ := Option.bind_eq_some_iff.mp h
  have HAD := Aside0.mk hy
  simp only at h
  clear hy
  by_cases hc : y2 = 0
  case neg =>
   rw [if_neg hc] at h
   simp only [Option.some.injEq, Prod.mk.injEq] at h
   obtain ⟨rfl, rfl, rfl, rfl⟩ := h
   have d0 : (y2 == 0) = false := by simpa using hc
   have d1 : (y2 != 0) = true := by simpa using hc
   clear hc
   go_enter Try.func20, Try.ntmps20
   go_wp2_with (first
    | ((with_reducible refine gate_dst (N := 3) rfl ?_); refine box_event ?hg (N := 3) ?hd (cs := #[.slice A0_0 l0_0.length c0_0, .slice A0_1 l0_1.length c0_1]) (t := 25) ?hr ?_; (case hd => rfl); (case hg => rfl); (case hr => first | (go_simp; done) | (go_simp; rfl)); intro gp hgp w1 hbox hb; have HP1 := Aside0.mk hbox; have HB1 := Aside0.mk hb; have HGP := Aside0.mk hgp; clear hbox hb hgp)
    | ((with_reducible refine gate_dst (N := 6) rfl ?_); refine box_event ?hg (N := 6) ?hd (cs := #[.slice none 0 0, .slice none 0 0]) (t := 25) ?hr ?_; (case hd => rfl); (case hg => rfl); (case hr => first | (go_simp; done) | (go_simp; rfl)); intro g6 hg6 w2 hbox hb; have HI := Aside0.mk (LInv_new HB1.out HP1.out HGP.out hg6 hbox hb); clear hbox hb hg6; have hp0 := LInv_p0 HI.out; have hp1 := LInv_p1 HI.out)
    | (go_at_call 26; refine (reach_Check.calls k _ _ l0_0 _ _ l0_1 0 _ (Kd.C_below (Kd.V_reads' HS0.out).2.2 HI.out.1.2.2) (Kd.V_reads' HS0.out).2.1 (Kd.C_below (Kd.V_reads' HS1.out).2.2 HI.out.1.2.2) (Kd.V_reads' HS1.out).2.1 HCK.out).mono ?_; rintro e w3 ⟨rfl, hb⟩; have n0_ := Aside0.mk (LInv_below HI.out hb); clear HI; have HI := n0_; clear n0_; (try clear hp0); (try clear hp1); have hp0 := LInv_p0 HI.out; have hp1 := LInv_p1 HI.out; clear hb)
    | (go_at_call 41; refine (edges_Drop.calls k _ _ l0_0 a1 a2 y1 y2 _ (Kd.C_below (Kd.V_reads' HS0.out).2.2 HI.out.1.2.2) (Kd.V_reads' HS0.out).2.1 HAD.out).mono ?_; rintro e w4 ⟨v4, rfl, ho, hb⟩; obtain ⟨A4, c4, rfl⟩ := Kd.R_slice ho; have HO4 := Aside0.mk (Kd.R_lower ho (below_size HI.out.1.2.2)); have n0_ := Aside0.mk (LInv_below HI.out hb); clear HI; have HI := n0_; clear n0_; (try clear hp0); (try clear hp1); have hp0 := LInv_p0 HI.out; have hp1 := LInv_p1 HI.out; clear hb; clear ho; have hc0 := LInv_c0 HI.out; have hc1 := LInv_c1 HI.out; have hf0 := LInv_f0 HI.out; have hf1 := LInv_f1 HI.out))
   refine bodyPost_ret (results_list (rs := [.cell 6 25, .tmp 7, .tmp 8]) rfl (by simp) (.cell g6 25 #[.slice A0_0 l0_0.length c0_0, .slice A0_1 l0_1.length c0_1] (0, 0) _ rfl (by refine blk_put (cs := #[.slice A0_0 l0_0.length c0_0, .slice none 0 0]) ?_ 1 _ rfl; refine blk_put (cs := #[.slice none 0 0, .slice none 0 0]) ?_ 0 _ rfl; exact HI.out.1.1) Try.underlying25 rfl (by kernel_rfl) (.tmp (.tmp .nil)))) rfl ?_
   have hBf := fun (u u' : Value) => below_set (j := 1) (v := u') (below_set (j := 0) (v := u) HI.out.1.2.2 HI.out.1.2.1) HI.out.1.2.1
   exact ⟨_, _, _, rfl, Kd.V_mono (Kd.V_below HS0.out (hBf _ _)) (fun k hk => ⟨.inl (.inl hk), (fun e => by cases e)⟩), Kd.V_mono (Kd.V_below HS1.out (hBf _ _)) (fun k hk => ⟨.inl (.inr hk), (fun e => by cases e)⟩), Kd.R_nil _ _ _ _ _, hBf _ _⟩
  case pos =>
   subst hc
   rw [if_pos rfl] at h
   obtain ⟨⟨m1, m2⟩, hm, h⟩ := Option.bind_eq_some_iff.mp h
   have HMM := Aside0.mk hm
   simp only at h
   clear hm
   split at h
   case isFalse => cases h
   rename_i hbd
   obtain ⟨b1, b2, b3⟩ := hbd
   obtain ⟨hl0, hw0⟩ := bndE_le b1
   obtain ⟨hl1, hw1⟩ := bndI_le b2
   obtain ⟨_, hw2⟩ := bndI_le b3
   have HL0 := Aside0.mk hl0
   have HW0 := Aside0.mk hw0
   have HL1 := Aside0.mk hl1
   have HW1 := Aside0.mk hw1
   have HWA := Aside0.mk (hw2 a1 (by simp))
   have HWB := Aside0.mk (hw2 a2 (by simp))
   clear b1 b2 b3 hl0 hw0 hl1 hw1 hw2
   unfold unlinkF at h
   by_cases hra : a1 = -1 ∨ a1 ∈ l0_1
   case neg =>
    have HN := Aside0.mk hra
    rw [if_pos (.inl hra)] at h
    simp only [Option.some.injEq, Prod.mk.injEq] at h
    obtain ⟨rfl, rfl, rfl, rfl⟩ := h
    clear hra
    go_enter Try.func20, Try.ntmps20
    go_wp2_with (first
     | ((with_reducible refine gate_dst (N := 3) rfl ?_); refine box_event ?hg (N := 3) ?hd (cs := #[.slice A0_0 l0_0.length c0_0, .slice A0_1 l0_1.length c0_1]) (t := 25) ?hr ?_; (case hd => rfl); (case hg => rfl); (case hr => first | (go_simp; done) | (go_simp; rfl)); intro gp hgp w1 hbox hb; have HP1 := Aside0.mk hbox; have HB1 := Aside0.mk hb; have HGP := Aside0.mk hgp; clear hbox hb hgp)
     | ((with_reducible refine gate_dst (N := 6) rfl ?_); refine box_event ?hg (N := 6) ?hd (cs := #[.slice none 0 0, .slice none 0 0]) (t := 25) ?hr ?_; (case hd => rfl); (case hg => rfl); (case hr => first | (go_simp; done) | (go_simp; rfl)); intro g6 hg6 w2 hbox hb; have HI := Aside0.mk (LInv_new HB1.out HP1.out HGP.out hg6 hbox hb); clear hbox hb hg6; have hp0 := LInv_p0 HI.out; have hp1 := LInv_p1 HI.out)
     | (go_at_call 26; refine (reach_Check.calls k _ _ l0_0 _ _ l0_1 0 _ (Kd.C_below (Kd.V_reads' HS0.out).2.2 HI.out.1.2.2) (Kd.V_reads' HS0.out).2.1 (Kd.C_below (Kd.V_reads' HS1.out).2.2 HI.out.1.2.2) (Kd.V_reads' HS1.out).2.1 HCK.out).mono ?_; rintro e w3 ⟨rfl, hb⟩; have n0_ := Aside0.mk (LInv_below HI.out hb); clear HI; have HI := n0_; clear n0_; (try clear hp0); (try clear hp1); have hp0 := LInv_p0 HI.out; have hp1 := LInv_p1 HI.out; clear hb)
     | (go_at_call 41; refine (edges_Drop.calls k _ _ l0_0 a1 a2 y1 0 _ (Kd.C_below (Kd.V_reads' HS0.out).2.2 HI.out.1.2.2) (Kd.V_reads' HS0.out).2.1 HAD.out).mono ?_; rintro e w4 ⟨v4, rfl, ho, hb⟩; obtain ⟨A4, c4, rfl⟩ := Kd.R_slice ho; have HO4 := Aside0.mk (Kd.R_lower ho (below_size HI.out.1.2.2)); have n0_ := Aside0.mk (LInv_below HI.out hb); clear HI; have HI := n0_; clear n0_; (try clear hp0); (try clear hp1); have hp0 := LInv_p0 HI.out; have hp1 := LInv_p1 HI.out; clear hb; clear ho)
     | (go_at_call 30; refine (of_calls _ _ l0_1 _ (Kd.C_below (Kd.V_reads' HS1.out).2.2 HI.out.1.2.2) (by have := HL1.out; omega) HW1.out).mono ?_; rintro e w5 ⟨rfl, hs, hb⟩; have HS5 := Aside0.mk hs; have HB5 := Aside0.mk (below_size HI.out.1.2.2); have HO5 := Aside0.mk (Kd.R_below HO4.out hb); clear HO4; have n0_ := Aside0.mk (LInv_below HI.out hb); clear HI; have HI := n0_; clear n0_; (try clear hp0); (try clear hp1); have hp0 := LInv_p0 HI.out; have hp1 := LInv_p1 HI.out; clear hb; clear hs))
    obtain ⟨W6, hW6⟩ : ∃ W, w5.alloc (.cells #[.map (some w4.heap.size)] 57) = W := ⟨_, rfl⟩
    obtain ⟨q1, q2, _⟩ := box_any w5 _ _ hW6
    rw [hW6]
    have HG6 := Aside0.mk q1
    have HO6 := Aside0.mk (Kd.R_below HO5.out q2)
    have HS6 := Aside0.mk (SetM_below HS5.out q2)
    have HI6 := Aside0.mk (LInv_below HI.out q2)
    clear HI HO5 HS5 q1 q2 hp0 hp1 hW6
    refine (edges_Many.calls k _ _ y1 a1 a2 m1 m2 _ (Kd.R_reads' HO6.out).2.2 (Kd.R_reads' HO6.out).2.1 HMM.out).mono ?_
    rintro e w7 ⟨rfl, hb⟩
    have HG7 := Aside0.mk (blk_below HG6.out hb)
    have HO7 := Aside0.mk (Kd.R_below HO6.out hb)
    have HS7 := Aside0.mk (SetM_below HS6.out hb)
    have HI := Aside0.mk (LInv_below HI6.out hb)
    have hp0 := LInv_p0 HI.out
    have hp1 := LInv_p1 HI.out
    have hz : w7.cell? ⟨w5.heap.size, 0, none⟩ = some (.map (some w4.heap.size)) := (blk_cell HG7.out 0).trans rfl
    clear hb HG6 HO6 HS6 HI6
    go_wp2_with (first
     | (go_at_call 31; refine (reached_calls _ _ _ a1 false _ HS7.out HWA.out ⟨(fun h => by cases h), fun h => absurd h HN.out⟩).mono ?_; rintro e w8 ⟨rfl, hb⟩; have HG8 := Aside0.mk (blk_below HG7.out hb); have HS8 := Aside0.mk (SetM_below HS7.out hb); have HO8 := Aside0.mk (Kd.R_below HO7.out hb); have n0_ := Aside0.mk (LInv_below HI.out hb); clear HI HG7 HS7 HO7 hp0 hp1 hz; have HI := n0_; clear n0_ hb; have hp0 := LInv_p0 HI.out; have hp1 := LInv_p1 HI.out; have hz : w8.cell? ⟨w5.heap.size, 0, none⟩ = some (.map (some w4.heap.size)) := (blk_cell HG8.out 0).trans rfl)
     | (go_at_call 33; refine (slices_Clone_int_int.calls _ _ l0_1 l0_1 _ (Kd.C_below (Kd.V_reads' HS1.out).2.2 HI.out.1.2.2) (Kd.V_reads' HS1.out).2.1 (by unfold slices_Clone_int_int.f; rw [if_pos (by have := HL1.out; omega)])).mono ?_; rintro e w9 ⟨v9, rfl, ho, hb⟩; obtain ⟨A8, c8, rfl⟩ := Kd.R_slice ho; have HO10 := Aside0.mk (Kd.R_lower ho (below_size HI.out.1.2.2)); have HO9 := Aside0.mk (Kd.R_below HO8.out hb); have n0_ := Aside0.mk (LInv_below HI.out hb); clear HI; have HI := n0_; clear n0_; (try clear hp0); (try clear hp1); have hp0 := LInv_p0 HI.out; have hp1 := LInv_p1 HI.out; clear hb; clear ho; have hc0 := LInv_c0 HI.out; have hc1 := LInv_c1 HI.out; have hf0 := LInv_f0 HI.out; have hf1 := LInv_f1 HI.out))
    refine bodyPost_ret (results_list (rs := [.cell 6 25, .tmp 7, .tmp 8]) rfl (by simp) (.cell g6 25 #[.slice A4 y1.length c4, .slice A8 l0_1.length c8] (0, 0) _ rfl (by refine blk_put (cs := #[.slice A4 y1.length c4, .slice none 0 0]) ?_ 1 _ rfl; refine blk_put (cs := #[.slice none 0 0, .slice none 0 0]) ?_ 0 _ rfl; exact HI.out.1.1) Try.underlying25 rfl (by kernel_rfl) (.tmp (.tmp .nil)))) rfl ?_
    have hBf := fun (u u' : Value) => below_set (j := 1) (v := u') (below_set (j := 0) (v := u) HI.out.1.2.2 HI.out.1.2.1) HI.out.1.2.1
    exact ⟨_, _, _, rfl, Kd.V_mono (Kd.R_V (Kd.R_bound (R_far2 HO9.out HI.out.1.1 (by decide) _ _))) (fun k hk => ⟨.inr hk.2.1, (fun e => by cases e)⟩), Kd.V_mono (Kd.R_V (Kd.R_bound (R_far2 HO10.out HI.out.1.1 (by decide) _ _))) (fun k hk => ⟨.inr hk.2.1, (fun e => by cases e)⟩), Kd.R_nil _ _ _ _ _, hBf _ _⟩
   case pos =>
    have HY := Aside0.mk hra
    by_cases hm : m2 = 0 ∧ 0 < m1
    case pos =>
     rw [if_pos (.inr hm)] at h
     simp only [Option.some.injEq, Prod.mk.injEq] at h
     obtain ⟨rfl, rfl, rfl, rfl⟩ := h
     obtain ⟨rfl, hm1⟩ := hm
     clear hra
     go_enter Try.func20, Try.ntmps20
     go_wp2_with (first
      | ((with_reducible refine gate_dst (N := 3) rfl ?_); refine box_event ?hg (N := 3) ?hd (cs := #[.slice A0_0 l0_0.length c0_0, .slice A0_1 l0_1.length c0_1]) (t := 25) ?hr ?_; (case hd => rfl); (case hg => rfl); (case hr => first | (go_simp; done) | (go_simp; rfl)); intro gp hgp w1 hbox hb; have HP1 := Aside0.mk hbox; have HB1 := Aside0.mk hb; have HGP := Aside0.mk hgp; clear hbox hb hgp)
      | ((with_reducible refine gate_dst (N := 6) rfl ?_); refine box_event ?hg (N := 6) ?hd (cs := #[.slice none 0 0, .slice none 0 0]) (t := 25) ?hr ?_; (case hd => rfl); (case hg => rfl); (case hr => first | (go_simp; done) | (go_simp; rfl)); intro g6 hg6 w2 hbox hb; have HI := Aside0.mk (LInv_new HB1.out HP1.out HGP.out hg6 hbox hb); clear hbox hb hg6; have hp0 := LInv_p0 HI.out; have hp1 := LInv_p1 HI.out)
      | (go_at_call 26; refine (reach_Check.calls k _ _ l0_0 _ _ l0_1 0 _ (Kd.C_below (Kd.V_reads' HS0.out).2.2 HI.out.1.2.2) (Kd.V_reads' HS0.out).2.1 (Kd.C_below (Kd.V_reads' HS1.out).2.2 HI.out.1.2.2) (Kd.V_reads' HS1.out).2.1 HCK.out).mono ?_; rintro e w3 ⟨rfl, hb⟩; have n0_ := Aside0.mk (LInv_below HI.out hb); clear HI; have HI := n0_; clear n0_; (try clear hp0); (try clear hp1); have hp0 := LInv_p0 HI.out; have hp1 := LInv_p1 HI.out; clear hb)
      | (go_at_call 41; refine (edges_Drop.calls k _ _ l0_0 a1 a2 y1 0 _ (Kd.C_below (Kd.V_reads' HS0.out).2.2 HI.out.1.2.2) (Kd.V_reads' HS0.out).2.1 HAD.out).mono ?_; rintro e w4 ⟨v4, rfl, ho, hb⟩; obtain ⟨A4, c4, rfl⟩ := Kd.R_slice ho; have HO4 := Aside0.mk (Kd.R_lower ho (below_size HI.out.1.2.2)); have n0_ := Aside0.mk (LInv_below HI.out hb); clear HI; have HI := n0_; clear n0_; (try clear hp0); (try clear hp1); have hp0 := LInv_p0 HI.out; have hp1 := LInv_p1 HI.out; clear hb; clear ho)
      | (go_at_call 30; refine (of_calls _ _ l0_1 _ (Kd.C_below (Kd.V_reads' HS1.out).2.2 HI.out.1.2.2) (by have := HL1.out; omega) HW1.out).mono ?_; rintro e w5 ⟨rfl, hs, hb⟩; have HS5 := Aside0.mk hs; have HB5 := Aside0.mk (below_size HI.out.1.2.2); have HO5 := Aside0.mk (Kd.R_below HO4.out hb); clear HO4; have n0_ := Aside0.mk (LInv_below HI.out hb); clear HI; have HI := n0_; clear n0_; (try clear hp0); (try clear hp1); have hp0 := LInv_p0 HI.out; have hp1 := LInv_p1 HI.out; clear hb; clear hs))
     obtain ⟨W6, hW6⟩ : ∃ W, w5.alloc (.cells #[.map (some w4.heap.size)] 57) = W := ⟨_, rfl⟩
     obtain ⟨q1, q2, _⟩ := box_any w5 _ _ hW6
     rw [hW6]
     have HG6 := Aside0.mk q1
     have HO6 := Aside0.mk (Kd.R_below HO5.out q2)
     have HS6 := Aside0.mk (SetM_below HS5.out q2)
     have HI6 := Aside0.mk (LInv_below HI.out q2)
     clear HI HO5 HS5 q1 q2 hp0 hp1 hW6
     refine (edges_Many.calls k _ _ y1 a1 a2 m1 0 _ (Kd.R_reads' HO6.out).2.2 (Kd.R_reads' HO6.out).2.1 HMM.out).mono ?_
     rintro e w7 ⟨rfl, hb⟩
     have HG7 := Aside0.mk (blk_below HG6.out hb)
     have HO7 := Aside0.mk (Kd.R_below HO6.out hb)
     have HS7 := Aside0.mk (SetM_below HS6.out hb)
     have HI := Aside0.mk (LInv_below HI6.out hb)
     have hp0 := LInv_p0 HI.out
     have hp1 := LInv_p1 HI.out
     have hz : w7.cell? ⟨w5.heap.size, 0, none⟩ = some (.map (some w4.heap.size)) := (blk_cell HG7.out 0).trans rfl
     clear hb HG6 HO6 HS6 HI6
     go_wp2_with (first
      | (go_at_call 31; refine (reached_calls _ _ _ a1 true _ HS7.out HWA.out ⟨fun _ => HY.out, fun _ => rfl⟩).mono ?_; rintro e w8 ⟨rfl, hb⟩; have HG8 := Aside0.mk (blk_below HG7.out hb); have HS8 := Aside0.mk (SetM_below HS7.out hb); have HO8 := Aside0.mk (Kd.R_below HO7.out hb); have n0_ := Aside0.mk (LInv_below HI.out hb); clear HI HG7 HS7 HO7 hp0 hp1 hz; have HI := n0_; clear n0_ hb; have hp0 := LInv_p0 HI.out; have hp1 := LInv_p1 HI.out; have hz : w8.cell? ⟨w5.heap.size, 0, none⟩ = some (.map (some w4.heap.size)) := (blk_cell HG8.out 0).trans rfl)
      | (go_at_call 33; refine (slices_Clone_int_int.calls _ _ l0_1 l0_1 _ (Kd.C_below (Kd.V_reads' HS1.out).2.2 HI.out.1.2.2) (Kd.V_reads' HS1.out).2.1 (by unfold slices_Clone_int_int.f; rw [if_pos (by have := HL1.out; omega)])).mono ?_; rintro e w9 ⟨v9, rfl, ho, hb⟩; obtain ⟨A8, c8, rfl⟩ := Kd.R_slice ho; have HO10 := Aside0.mk (Kd.R_lower ho (below_size HI.out.1.2.2)); have HO9 := Aside0.mk (Kd.R_below HO8.out hb); have n0_ := Aside0.mk (LInv_below HI.out hb); clear HI; have HI := n0_; clear n0_; (try clear hp0); (try clear hp1); have hp0 := LInv_p0 HI.out; have hp1 := LInv_p1 HI.out; clear hb; clear ho; have hc0 := LInv_c0 HI.out; have hc1 := LInv_c1 HI.out; have hf0 := LInv_f0 HI.out; have hf1 := LInv_f1 HI.out))
     refine bodyPost_ret (results_list (rs := [.cell 6 25, .tmp 7, .tmp 8]) rfl (by simp) (.cell g6 25 #[.slice A4 y1.length c4, .slice A8 l0_1.length c8] (0, 0) _ rfl (by refine blk_put (cs := #[.slice A4 y1.length c4, .slice none 0 0]) ?_ 1 _ rfl; refine blk_put (cs := #[.slice none 0 0, .slice none 0 0]) ?_ 0 _ rfl; exact HI.out.1.1) Try.underlying25 rfl (by kernel_rfl) (.tmp (.tmp .nil)))) rfl ?_
     have hBf := fun (u u' : Value) => below_set (j := 1) (v := u') (below_set (j := 0) (v := u) HI.out.1.2.2 HI.out.1.2.1) HI.out.1.2.1
     exact ⟨_, _, _, rfl, Kd.V_mono (Kd.R_V (Kd.R_bound (R_far2 HO9.out HI.out.1.1 (by decide) _ _))) (fun k hk => ⟨.inr hk.2.1, (fun e => by cases e)⟩), Kd.V_mono (Kd.R_V (Kd.R_bound (R_far2 HO10.out HI.out.1.1 (by decide) _ _))) (fun k hk => ⟨.inr hk.2.1, (fun e => by cases e)⟩), Kd.R_nil _ _ _ _ _, hBf _ _⟩
    case neg =>
     rw [if_neg (by intro hh; rcases hh with hh | hh; exact hh hra; exact hm hh)] at h
     split at h
     case isFalse => cases h
     rename_i hm2
     subst hm2
     simp only [Option.some.injEq, Prod.mk.injEq] at h
     obtain ⟨rfl, rfl, rfl, rfl⟩ := h
     have hm1 : ¬ 0 < m1 := fun h => hm ⟨rfl, h⟩
     clear hra hm
     go_enter Try.func20, Try.ntmps20
     go_wp2_with (first
      | ((with_reducible refine gate_dst (N := 3) rfl ?_); refine box_event ?hg (N := 3) ?hd (cs := #[.slice A0_0 l0_0.length c0_0, .slice A0_1 l0_1.length c0_1]) (t := 25) ?hr ?_; (case hd => rfl); (case hg => rfl); (case hr => first | (go_simp; done) | (go_simp; rfl)); intro gp hgp w1 hbox hb; have HP1 := Aside0.mk hbox; have HB1 := Aside0.mk hb; have HGP := Aside0.mk hgp; clear hbox hb hgp)
      | ((with_reducible refine gate_dst (N := 6) rfl ?_); refine box_event ?hg (N := 6) ?hd (cs := #[.slice none 0 0, .slice none 0 0]) (t := 25) ?hr ?_; (case hd => rfl); (case hg => rfl); (case hr => first | (go_simp; done) | (go_simp; rfl)); intro g6 hg6 w2 hbox hb; have HI := Aside0.mk (LInv_new HB1.out HP1.out HGP.out hg6 hbox hb); clear hbox hb hg6; have hp0 := LInv_p0 HI.out; have hp1 := LInv_p1 HI.out)
      | (go_at_call 26; refine (reach_Check.calls k _ _ l0_0 _ _ l0_1 0 _ (Kd.C_below (Kd.V_reads' HS0.out).2.2 HI.out.1.2.2) (Kd.V_reads' HS0.out).2.1 (Kd.C_below (Kd.V_reads' HS1.out).2.2 HI.out.1.2.2) (Kd.V_reads' HS1.out).2.1 HCK.out).mono ?_; rintro e w3 ⟨rfl, hb⟩; have n0_ := Aside0.mk (LInv_below HI.out hb); clear HI; have HI := n0_; clear n0_; (try clear hp0); (try clear hp1); have hp0 := LInv_p0 HI.out; have hp1 := LInv_p1 HI.out; clear hb)
      | (go_at_call 41; refine (edges_Drop.calls k _ _ l0_0 a1 a2 y1 0 _ (Kd.C_below (Kd.V_reads' HS0.out).2.2 HI.out.1.2.2) (Kd.V_reads' HS0.out).2.1 HAD.out).mono ?_; rintro e w4 ⟨v4, rfl, ho, hb⟩; obtain ⟨A4, c4, rfl⟩ := Kd.R_slice ho; have HO4 := Aside0.mk (Kd.R_lower ho (below_size HI.out.1.2.2)); have n0_ := Aside0.mk (LInv_below HI.out hb); clear HI; have HI := n0_; clear n0_; (try clear hp0); (try clear hp1); have hp0 := LInv_p0 HI.out; have hp1 := LInv_p1 HI.out; clear hb; clear ho)
      | (go_at_call 30; refine (of_calls _ _ l0_1 _ (Kd.C_below (Kd.V_reads' HS1.out).2.2 HI.out.1.2.2) (by have := HL1.out; omega) HW1.out).mono ?_; rintro e w5 ⟨rfl, hs, hb⟩; have HS5 := Aside0.mk hs; have HB5 := Aside0.mk (below_size HI.out.1.2.2); have HO5 := Aside0.mk (Kd.R_below HO4.out hb); clear HO4; have n0_ := Aside0.mk (LInv_below HI.out hb); clear HI; have HI := n0_; clear n0_; (try clear hp0); (try clear hp1); have hp0 := LInv_p0 HI.out; have hp1 := LInv_p1 HI.out; clear hb; clear hs))
     obtain ⟨W6, hW6⟩ : ∃ W, w5.alloc (.cells #[.map (some w4.heap.size)] 57) = W := ⟨_, rfl⟩
     obtain ⟨q1, q2, _⟩ := box_any w5 _ _ hW6
     rw [hW6]
     have HG6 := Aside0.mk q1
     have HO6 := Aside0.mk (Kd.R_below HO5.out q2)
     have HS6 := Aside0.mk (SetM_below HS5.out q2)
     have HI6 := Aside0.mk (LInv_below HI.out q2)
     clear HI HO5 HS5 q1 q2 hp0 hp1 hW6
     refine (edges_Many.calls k _ _ y1 a1 a2 m1 0 _ (Kd.R_reads' HO6.out).2.2 (Kd.R_reads' HO6.out).2.1 HMM.out).mono ?_
     rintro e w7 ⟨rfl, hb⟩
     have HG7 := Aside0.mk (blk_below HG6.out hb)
     have HO7 := Aside0.mk (Kd.R_below HO6.out hb)
     have HS7 := Aside0.mk (SetM_below HS6.out hb)
     have HI := Aside0.mk (LInv_below HI6.out hb)
     have hp0 := LInv_p0 HI.out
     have hp1 := LInv_p1 HI.out
     have hz : w7.cell? ⟨w5.heap.size, 0, none⟩ = some (.map (some w4.heap.size)) := (blk_cell HG7.out 0).trans rfl
     clear hb HG6 HO6 HS6 HI6
     go_wp2_with (first
      | (go_at_call 31; refine (reached_calls _ _ _ a1 true _ HS7.out HWA.out ⟨fun _ => HY.out, fun _ => rfl⟩).mono ?_; rintro e w8 ⟨rfl, hb⟩; have HG8 := Aside0.mk (blk_below HG7.out hb); have HS8 := Aside0.mk (SetM_below HS7.out hb); have HO8 := Aside0.mk (Kd.R_below HO7.out hb); have n0_ := Aside0.mk (LInv_below HI.out hb); clear HI HG7 HS7 HO7 hp0 hp1 hz; have HI := n0_; clear n0_ hb; have hp0 := LInv_p0 HI.out; have hp1 := LInv_p1 HI.out; have hz : w8.cell? ⟨w5.heap.size, 0, none⟩ = some (.map (some w4.heap.size)) := (blk_cell HG8.out 0).trans rfl)
      | (go_at_call 35; refine (paths_calls _ _ y1 _ (Kd.R_reads' HO8.out).2.2 (by have := HL0.out; omega) HW0.out).mono ?_; rintro e w9 ⟨nb, bb, rfl, hb, hN1, hN2⟩; have HN := Aside0.mk (And.intro hb (And.intro hN1 hN2)); clear hb hN1 hN2 hz hp0 hp1))
     obtain ⟨W, hW⟩ : ∃ W, w9.alloc (.cells #[.map (some nb), .map (some bb)] 65) = W := ⟨_, rfl⟩
     have HU0 := Aside0.mk (UInv_mk HI.out HG8.out HO8.out HS8.out HB5.out HN.out.1 HN.out.2.1 HN.out.2.2 hW)
     have HS9 := Aside0.mk (SetM_below (SetM_below HS8.out HN.out.1) (box_any w9 _ _ hW).2.1)
     have hWs := (box_any w9 _ _ hW).2.2
     have hmm := @run_makeMap Try.prog
     have huM := Try.underlying57
     have huW := Try.underlying65
     clear HI HG8 HO8 HS8 HN
     go_wp2_with (fail)
     rw [hmm]
     go_wp2_with (fail)
     have hmap := SetM_new W
     rw [hWs] at hmap
     refine (add_calls _ _ _ a2 _ hmap HWB.out (by omega)).mono ?_
     rintro e w12 ⟨rfl, hs, hg⟩
     have hWa := below_alloc (Below.refl W.heap.size W) (.map #[] 0)
     have HU := Aside0.mk (UInv_grown (UInv_below HU0.out hWa) hg (.inr (Nat.lt_succ_self _)))
     have HL := Aside0.mk (SetM_grown (SetM_below HS9.out hWa) hg (fun e => by have := UInv_bl HU0.out; injection e with e; omega))
     have HD := Aside0.mk hs
     clear hs hg hWa hmap hmm HU0 HS9 hW hWs
     have hz15 := UInv_z15 HU.out
     obtain ⟨hz0, hz1⟩ := hz15
     have hz12 := UInv_z12 HU.out
     go_wp2_with (fail)
     have hb4 : Below w12.heap.size w12 (w12.alloc (.cells #[.int .i64 a2] 3)) := below_alloc (Below.refl _ _) _
     have HUa := Aside0.mk (UInv_below HU.out hb4)
     have g15lt := UInv_g15 HU.out
     have hbl := UInv_bl HU.out
     have hlt := SetM_lt HD.out
     refine (spread_calls w nb bb (w8.heap.size + 1) w9.heap.size (w9.heap.size + 1) (0 + 1) (NextF y1) (fun y => False ∨ y = a2) (fun k => k = w12.heap.size) _ [a2] (y1.map (·.f1)) _ HUa.out.2.2.2.1 (by simp; omega) (SetM_below HD.out hb4) (by omega) (by rintro k rfl; omega) (R_one w12 a2 w.heap.size (UInv_size HU.out)) HUa.out.1.1.2.2 (by have := UInv_size HU.out; omega) (fun x hx => by rw [List.mem_singleton] at hx; subst hx; exact HWB.out) (fun a x hx => NextF_U a x hx) (U_wf HW0.out) (fun a => by have := selE_len (·.f0) (·.f1) y1 a; have := HL0.out; unfold NextF; omega) (by have := HL0.out; simp; omega) (by simp) (by omega)).mono ?_
     rintro e w13 ⟨bc, C, rfl, hs1, hs2, hR, hCl, hbc, hne, hB0, hk⟩
     have HCL := Aside0.mk (show C.length ≤ 1000000 by have := HL0.out; simp at hCl; omega)
     have HMEM : ∀ x, ((False ∨ x = a2) ∨ x ∈ C) ↔ x ∈ doubtU y1 a2 := fun x => by
      unfold doubtU
      rw [List.mem_cons, mem_spreadF, hR x, Rch_congr (M := fun y => False ∨ y = a2) (M' := (· ∈ [a2])) (fun y => by simp) (fun y => Iff.rfl) x]
      simp
     have HU13 := Aside0.mk (UInv_kept HUa.out hk (fun k hk => .inr (by rcases hk with hk | hk <;> omega)) hB0)
     have HL13 := Aside0.mk (SetM_kept (SetM_below HL.out hb4) hk (by omega))
     have HD13 := Aside0.mk (SetM_mono (SetM_iff hs1 HMEM) (m := 1000001) (by have := HCL.out; omega))
     have HZ13 := Aside0.mk (show w9.heap.size + 1 < w13.heap.size from SetM_lt HD13.out)
     clear hs1 hs2 hR hCl hbc hne hB0 hk HMEM HUa hb4 g15lt hbl hlt HU HL HD hz0 hz1 hz12 HCL
     obtain ⟨Dd, hown, hMd⟩ := HD13.out
     have hz12 := UInv_z12 HU13.out
     go_wp2_with (first | (at_range; refine wpList_range_own _ rfl _ 57 rfl 3 78 keyed_int huM _ (w9.heap.size + 1) _ Dd rfl hown ?_; intro w14 hrg0 hg0 hs0))
     go_frame
     have HMD := Aside0.mk hMd
     have hL14 := SetM_grown HL13.out hg0 (by simp)
     have hU14 := UInv_row HU13.out hg0 (fun k e => by cases e)
     have HLb := Aside0.mk (UInv_bl HU13.out)
     go_loopw [17] (fun _ wr => ∃ (left : Lit → Bool) (cnt : Nat), Aside0 (wr.ranges Try.prog 3 unitElem (w9.heap.size + 1) w13.heap.size 1000001 Dd left cnt) ∧ Aside0 (UInv w wr g6 gp w5.heap.size w9.heap.size w4.heap.size nb bb (w8.heap.size + 1) (.slice A0_0 l0_0.length c0_0) (.slice A0_1 l0_1.length c0_1) (.slice A4 y1.length c4) y1) ∧
       Aside0 (SetM wr w4.heap.size l0_1.length (fun x => x ∈ l0_1 ∧ (x ∈ doubtU y1 a2 → left (.int .i64 x) = true))) ∧ Aside0 (∀ x, left (.int .i64 x) = true → x ∈ doubtU y1 a2)) (fun _ wr => wr.rangeLeft (w9.heap.size + 1) w13.heap.size)
     case atStart => exact ⟨_, _, ⟨hrg0⟩, ⟨hU14⟩, ⟨SetM_iff hL14 (fun x => ⟨fun h => ⟨h, fun h2 => (hMd x).2 h2⟩, fun h => h.1⟩)⟩, ⟨fun x h => (hMd x).1 h⟩⟩
     clear hrg0 hg0 hs0 hL14 hU14 HU13 HL13 HD13 hown hMd hz12
     obtain ⟨left, cnt, HR, HU, HL, HLE⟩ := hrel
     have hrg := HR.out
     have hz12 := UInv_z12 HU.out
     go_wp2_with (first | (at_next; refine wpList_next_ranges _ rfl _ rfl 3 keyed_int unitElem (Value.int .i64) (fun _ : Unit => .agg #[]) (fun key kl hk => by obtain ⟨x, rfl, _⟩ := Maps.keyOf_int_inv Try.underlying3 hk; exact ⟨x, rfl⟩) (fun v y hv => by obtain ⟨rfl, _⟩ := unitElem_inv hv; exact ⟨(), rfl⟩) (w9.heap.size + 1) w13.heap.size 1000001 _ _ _ rfl hrg ?_ ?_))
     rotate_left
     ·intro x c kl y w15 cnt1 hkey hlk hv hat hrg1 hlt hg1 hs1 hen
      obtain ⟨x', ex, rfl, hwx⟩ := Maps.keyOf_int_inv Try.underlying3 hkey
      cases ex
      have HU15 := Aside0.mk (UInv_row HU.out hg1 (fun k e => by injection e with e; have := HZ13.out; omega))
      have hne1 : w4.heap.size ≠ w13.heap.size := fun e => by have := HZ13.out; have := HLb.out; omega
      have hne2 : w9.heap.size + 1 ≠ w4.heap.size := fun e => by have := HLb.out; omega
      obtain ⟨Dl, hownl, hMl⟩ := SetM_grown HL.out hg1 (fun e => hne1 (Option.some.inj e))
      have hz12 := UInv_z12 HU15.out
      have HXL := Aside0.mk (HLE.out x hlk)
      have HML := Aside0.mk hMl
      have HRG1 := Aside0.mk (And.intro hrg1 hlt)
      have HNE := Aside0.mk (And.intro hne1 hne2)
      have HLL := HLE
      have HRR := Aside0.mk hrg
      clear HR HL HU HLE hv hat hlk hg1 hs1 hMl hrg1 hlt hne1 hne2 hrg
      go_wp2_with (first | (at_delete; refine wpList_delete_own _ rfl _ _ _ _ rfl 78 keyed_int huM _ w4.heap.size _ Dl rfl hownl _ _ rfl hkey ?_; intro w16 hown16 hturn))
      go_roundw
      case rel =>
       refine ⟨_, ⟨cnt1, ⟨HRG1.out.1.kept hturn.grown (fun e => HNE.out.2 (Option.some.inj e)) (fun e => HNE.out.1 (Option.some.inj e).symm)⟩⟩, ⟨UInv_grown HU15.out hturn.grown (.inl rfl)⟩, ⟨SetM_iff (SetM_del HML.out hown16) (fun y => ?_)⟩, ⟨fun y hy => HLL.out y (by rw [Bool.and_eq_true] at hy; exact hy.1)⟩⟩
       rw [Bool.and_eq_true, sameKey_i]
       by_cases hyx : y = x
       ·subst hyx
        exact ⟨fun h => absurd rfl h.2, fun h => by have := (h.2 HXL.out).2; simp at this⟩
       ·simp [hyx]
      case measure =>
       rw [(HRG1.out.1.kept hturn.grown (fun e => HNE.out.2 (Option.some.inj e)) (fun e => HNE.out.1 (Option.some.inj e).symm)).left_eq, HRR.out.left_eq]
       exact HRG1.out.2
     intro hc0 hl0
     have HD := Aside0.mk (⟨Dd, hrg.owns, HMD.out⟩ : SetM _ (w9.heap.size + 1) 1000001 (fun x => x ∈ doubtU y1 a2))
     have HL1' := Aside0.mk (SetM_iff HL.out (M' := fun x => x ∈ live1U y1 l0_1 a2) (fun x => by
      rw [mem_live1U]
      refine and_congr_right fun _ => ⟨(fun h h2 => by have hq := h h2; rw [hl0] at hq; exact absurd hq Bool.false_ne_true), (fun h h2 => absurd h2 h)⟩))
     clear HR HL HLE hrg hc0 hl0
     obtain ⟨dr, hdr⟩ : ∃ l, l = riseI (doubtU y1 a2) := ⟨_, rfl⟩
     have HDL := Aside0.mk (show dr.length ≤ 1000001 by rw [hdr]; have := riseI_len (doubtU y1 a2); have := doubtU_len y1 a2; have := HL0.out; omega)
     have HDW := Aside0.mk (fun x (hx : x ∈ dr) => doubtU_wf HW0.out HWB.out (mem_riseI.1 (hdr ▸ hx)) : ∀ x ∈ dr, wfI x)
     have HDR := Aside0.mk hdr
     have hdrs : dr.Pairwise (· < ·) := hdr ▸ riseI_sorted _
     have hdrm : ∀ x, x ∈ dr ↔ x ∈ doubtU y1 a2 := fun x => by rw [hdr]; exact mem_riseI
     have HDS := Aside0.mk (And.intro hdrs hdrm)
     clear hdr hdrs hdrm
     go_wp2_with (fail)
     refine (rising_calls _ _ _ dr _ HD.out (by omega) HDS.out.1 HDS.out.2).mono ?_
     rintro e w17 ⟨v17, rfl, ho, hb⟩
     obtain ⟨A17, c17, rfl⟩ := Kd.R_slice ho
     have HZ17 := Aside0.mk (show w9.heap.size + 1 < w17.heap.size by have := SetM_lt HD.out; have := hb.size; omega)
     have hR17 : Kd.R (Kd.int .i64) 3 w17 w.heap.size (fun k => w9.heap.size + 1 < k ∧ k < w17.heap.size) (.slice A17 dr.length c17) dr := Kd.R_lower (Kd.R_mono (Kd.R_bound ho) (fun k hk => ⟨by have := SetM_lt HD.out; have := hk.2.1; omega, hk.2.2.1⟩)) (UInv_size HU.out)
     have hU17 := Aside0.mk (UInv_below HU.out hb)
     have hL17 := Aside0.mk (SetM_below HL1'.out hb)
     have hD17 := Aside0.mk (SetM_below HD.out hb)
     have HR17 := Aside0.mk hR17
     clear HU HL1' HD ho hb hR17 hz12
     go_wp2_with (fail)
     go_loopw [18, 93] (fun v18 v93 wr => ∃ (j : Nat) (jv : Int), j ≤ dr.length ∧ jv = (j : Int) ∧ v93 = .int .i64 jv ∧ Aside0 (UInv w wr g6 gp w5.heap.size w9.heap.size w4.heap.size nb bb (w8.heap.size + 1) (.slice A0_0 l0_0.length c0_0) (.slice A0_1 l0_1.length c0_1) (.slice A4 y1.length c4) y1) ∧ Aside0 (SetM wr w4.heap.size l0_1.length (fun x => x ∈ live1U y1 l0_1 a2)) ∧ Aside0 (SetM wr (w9.heap.size + 1) 1000001 (fun x => x ∈ doubtU y1 a2)) ∧
       Aside0 (Kd.R (Kd.int .i64) 3 wr w.heap.size (fun k => w17.heap.size ≤ k) v18 ((dr.take j).filter (sureP y1 l0_1 a2))) ∧ Aside0 (Kd.R (Kd.int .i64) 3 wr w.heap.size (fun k => w9.heap.size + 1 < k ∧ k < w17.heap.size) (.slice A17 dr.length c17) dr) ∧ Aside0 (w17.heap.size ≤ wr.heap.size)) (fun _ v93 _ => dr.length - (intOf v93).toNat)
     case atStart => exact ⟨0, 0, by omega, rfl, rfl, hU17, hL17, hD17, ⟨Kd.R_nil _ _ _ _ _⟩, HR17, ⟨Nat.le_refl _⟩⟩
     clear hU17 hL17 hD17 HR17
     obtain ⟨j, jv, hj, hjv, rfl, HU, HL, HD, HS18, HR, HZ⟩ := hrel
     have hd63 : dr.length ≤ 9223372036854775807 := by have := HDL.out; omega
     rcases Nat.lt_or_ge j dr.length with hlt | hge
     ·have p0 : (0 : Int) ≤ jv := by omega
      have q0 : jv < (dr.length : Int) := by omega
      obtain ⟨A3, c3, hv3⟩ := Kd.R_slice HS18.out
      subst hv3
      obtain ⟨ad, ead, hx⟩ := Kd.at_int (Kd.R_reads' HR.out).2.2 jv p0 q0
      cases ead
      have hrd : rd dr jv = dr[j] := by rw [hjv]; simp [rd, List.getD_eq_getElem?_getD, hlt]
      obtain ⟨x, hxe⟩ : ∃ x, x = dr[j] := ⟨_, rfl⟩
      rw [hrd, ← hxe] at hx
      have hget : dr[j]? = some x := by rw [hxe]; exact List.getElem?_eq_getElem hlt
      have hwx := HDW.out x (List.mem_of_getElem? hget)
      obtain ⟨AB, cB, hBl, hBw, hlk, hBC⟩ := UInv_look HU.out hwx
      obtain ⟨hz0, hz1⟩ := UInv_z15 HU.out
      have HGET := Aside0.mk hget
      have Hjv := Aside0.mk hjv
      have Hlt := Aside0.mk hlt
      have HBW := Aside0.mk hBw
      have HBC := Aside0.mk hBC
      have HBL := Aside0.mk (show (BackF y1 x).length ≤ 1000000000 by have := selE_len (·.f1) (·.f0) y1 x; have := HL0.out; unfold BackF; omega)
      clear hrd hxe hget hjv hj hlt hBl hBw hwx hBC
      cases hsp : sureP y1 l0_1 a2 x
      case false =>
       have HSP := Aside0.mk hsp
       clear hsp
       go_wp2_with (first | (go_at_call 43; refine (containsFunc_calls _ _ (BackF y1 x) w5.heap.size w4.heap.size _ _ false _ HBC.out HBL.out HBW.out HU.out.2.1 HL.out (by rw [← sureP_iff, HSP.out])).mono ?_; rintro e w18 ⟨rfl, hb⟩; have HB18 := Aside0.mk hb; clear hb))
       refine ⟨⟨j + 1, jv + 1, by have := Hlt.out; omega, by have := Hjv.out; omega, rfl, ⟨UInv_below HU.out HB18.out⟩, ⟨SetM_below HL.out HB18.out⟩, ⟨SetM_below HD.out HB18.out⟩, ⟨by rw [take_filter_neg HGET.out HSP.out]; exact Kd.R_below HS18.out HB18.out⟩, ⟨Kd.R_below HR.out HB18.out⟩, ⟨by have := HB18.out.size; have := HZ.out; omega⟩⟩, ?_⟩
       show dr.length - (jv + 1).toNat < dr.length - jv.toNat
       have := Hjv.out
       have := Hlt.out
       omega
      case true =>
       have HSP := Aside0.mk hsp
       clear hsp
       go_wp2_with (first
        | (go_at_call 43; refine (containsFunc_calls _ _ (BackF y1 x) w5.heap.size w4.heap.size _ _ true _ HBC.out HBL.out HBW.out HU.out.2.1 HL.out (by rw [← sureP_iff, HSP.out])).mono ?_; rintro e w18 ⟨rfl, hb⟩; have HB18 := Aside0.mk hb; clear hb)
        | ((with_reducible refine gate_builtin (b := .append) (xs := #[.tmp 103, .tmp 105]) rfl ?_); at_builtin; refine Kd.R_append (Kd.int .i64) (w0 := w) w.heap.size rfl (.tmp 103) (.tmp 105) 23 3 (.int .i64 0) 8 rfl Try.underlying23 info3 rfl (by decide) (by omega) _ ((dr.take j).filter (sureP y1 l0_1 a2)) x [.int .i64 x] (fun k => w17.heap.size ≤ k) (fun _ => False) rfl rfl ?aP (fun _ hk => hk.elim) ?aF ?aO ?aB ?aS ?aL ?_; (case aP => rfl); (case aB => exact (UInv_below HU.out HB18.out).1.1.2.2); (case aF => exact (fun k hk => by have := HB18.out.size; have := HZ.out; omega)); (case aO => exact Kd.R_below HS18.out HB18.out); (case aS => exact UInv_size (UInv_below HU.out HB18.out)); (case aL => have := filter_take_len dr (sureP y1 l0_1 a2) j; have := HDL.out; omega); intro v4 w19 ho hb hg hat_; have HO19 := Aside0.mk ho; have HG19 := Aside0.mk hg; clear ho hb hg hat_))
       have hrow := Kd.R_below HS18.out HB18.out
       have hUb := UInv_below HU.out HB18.out
       have hLb := SetM_below HL.out HB18.out
       have hDb := SetM_below HD.out HB18.out
       refine ⟨⟨j + 1, jv + 1, by have := Hlt.out; omega, by have := Hjv.out; omega, rfl, ⟨UInv_row hUb HG19.out (fun k e => by have := hrow.1 k e; have := HZ17.out; omega)⟩, ⟨SetM_grown hLb HG19.out (SetM_offR hLb hrow)⟩, ⟨SetM_grown hDb HG19.out (SetM_offR hDb hrow)⟩, ⟨by rw [take_filter_pos HGET.out HSP.out]; exact HO19.out⟩, ⟨Kd.R_grown (Kd.R_below HR.out HB18.out) HG19.out (fun k hk e => by have := hrow.1 k e.symm; have := hk.2; omega)⟩, ⟨by have := HB18.out.size; have := HZ.out; have := HG19.out.size; omega⟩⟩, ?_⟩
       show dr.length - (jv + 1).toNat < dr.length - jv.toNat
       have := Hjv.out
       have := Hlt.out
       omega
     have hnl : ¬ (jv < (dr.length : Int)) := by omega
     obtain ⟨sr, hsr⟩ : ∃ l, l = sureU y1 l0_1 a2 := ⟨_, rfl⟩
     have hS18 := HS18.out
     rw [List.take_of_length_le (by omega), show dr.filter (sureP y1 l0_1 a2) = sr by rw [hsr, HDR.out]; rfl] at hS18
     obtain ⟨A18, c18, hv18⟩ := Kd.R_slice hS18
     subst hv18
     have HS18 := Aside0.mk hS18
     have HSR := Aside0.mk hsr
     have HSL := Aside0.mk (show sr.length ≤ 1000001 by rw [hsr]; unfold sureU; rw [← HDR.out]; have := List.length_filter_le (sureP y1 l0_1 a2) dr; have := HDL.out; omega)
     have HSW := Aside0.mk (fun x (hx : x ∈ sr) => HDW.out x (by rw [hsr] at hx; unfold sureU at hx; rw [← HDR.out] at hx; exact (List.mem_filter.1 hx).1) : ∀ x ∈ sr, wfI x)
     clear hS18 hsr hj hjv hge
     have hs63 : sr.length ≤ 9223372036854775807 := by have := HSL.out; omega
     go_wp2_with (fail)
     clear hnl
     go_loopw [110] (fun v110 wr => ∃ (j : Nat) (jv : Int), j ≤ sr.length ∧ jv = (j : Int) ∧ v110 = .int .i64 jv ∧ Aside0 (UInv w wr g6 gp w5.heap.size w9.heap.size w4.heap.size nb bb (w8.heap.size + 1) (.slice A0_0 l0_0.length c0_0) (.slice A0_1 l0_1.length c0_1) (.slice A4 y1.length c4) y1) ∧ Aside0 (SetM wr w4.heap.size (l0_1.length + j) (fun x => x ∈ live1U y1 l0_1 a2 ∨ x ∈ sr.take j)) ∧ Aside0 (SetM wr (w9.heap.size + 1) 1000001 (fun x => x ∈ doubtU y1 a2)) ∧
       Aside0 (Kd.R (Kd.int .i64) 3 wr w.heap.size (fun k => w17.heap.size ≤ k) (.slice A18 sr.length c18) sr) ∧ Aside0 (w17.heap.size ≤ wr.heap.size)) (fun v110 _ => sr.length - (intOf v110).toNat)
     case atStart => exact ⟨0, 0, by omega, rfl, rfl, HU, ⟨SetM_iff HL.out (fun x => by simp)⟩, HD, HS18, HZ⟩
     clear HU HL HD HS18 HR HZ
     obtain ⟨j, jv, hj, hjv, rfl, HU, HL, HD, HS18, HZ⟩ := hrel
     rcases Nat.lt_or_ge j sr.length with hlt | hge
     ·have p0 : (0 : Int) ≤ jv := by omega
      have q0 : jv < (sr.length : Int) := by omega
      obtain ⟨ad, ead, hx⟩ := Kd.at_int (Kd.R_reads' HS18.out).2.2 jv p0 q0
      cases ead
      have hrd : rd sr jv = sr[j] := by rw [hjv]; simp [rd, List.getD_eq_getElem?_getD, hlt]
      obtain ⟨x, hxe⟩ : ∃ x, x = sr[j] := ⟨_, rfl⟩
      rw [hrd, ← hxe] at hx
      have HTK := Aside0.mk (show sr.take (j + 1) = sr.take j ++ [x] by rw [List.take_succ_eq_append_getElem hlt, hxe])
      have HWX := Aside0.mk (HSW.out x (hxe ▸ List.getElem_mem hlt))
      have hz12 := UInv_z12 HU.out
      have Hjv := Aside0.mk hjv
      have Hlt := Aside0.mk hlt
      clear hrd hxe hjv hj hlt
      go_wp2_with (first | (go_at_call 34; refine (add_calls w4.heap.size _ _ x _ HL.out HWX.out (by have := Hlt.out; have := HSL.out; have := HL1.out; omega)).mono ?_; rintro e w18 ⟨rfl, hs, hg⟩; have HS1' := Aside0.mk hs; have HG1 := Aside0.mk hg; clear hs hg))
      have hbl := UInv_bl HU.out
      refine ⟨⟨j + 1, jv + 1, by have := Hlt.out; omega, by have := Hjv.out; omega, rfl, ⟨UInv_grown HU.out HG1.out (.inl rfl)⟩, ⟨SetM_iff HS1'.out (fun y => by rw [HTK.out]; simp [or_assoc])⟩, ⟨SetM_grown HD.out HG1.out (fun e => by injection e with e; omega)⟩, ⟨R_offSet HL.out HS18.out HG1.out⟩, ⟨by have := HZ.out; have := HG1.out.size; omega⟩⟩, ?_⟩
      show sr.length - (jv + 1).toNat < sr.length - jv.toNat
      have := Hjv.out
      have := Hlt.out
      omega
     have hnl : ¬ (jv < (sr.length : Int)) := by omega
     have hL := HL.out
     rw [List.take_of_length_le (by omega)] at hL
     have HL2 := Aside0.mk (SetM_mono (SetM_iff hL (M' := fun x => x ∈ live2U y1 l0_1 a2) (fun x => by unfold live2U; rw [List.mem_append, HSR.out])) (m := 2000001) (by have := HL1.out; have := HSL.out; omega))
     obtain ⟨hz0, hz1⟩ := UInv_z15 HU.out
     have hz12 := UInv_z12 HU.out
     clear hL HL hj hjv hge
     go_wp2_with (fail)
     have hbl := UInv_bl HU.out
     have hg15 := UInv_g15 HU.out
     have hz17 := HZ17.out
     refine (spread_calls w nb bb (w8.heap.size + 1) w9.heap.size w4.heap.size 2000001 (NextF y1) (fun y => y ∈ live2U y1 l0_1 a2) (fun k => w17.heap.size ≤ k) _ sr (y1.map (·.f1)) _ HU.out.2.2.2.1 (by omega) HL2.out (by omega) (by intro k hk; omega) HS18.out HU.out.1.1.2.2 hbl.2.2 HSW.out (fun a x hx => NextF_U a x hx) (U_wf HW0.out) (fun a => by have := selE_len (·.f0) (·.f1) y1 a; have := HL0.out; unfold NextF; omega) (by have := HL0.out; simp; omega) (by have := HSL.out; omega) (by omega)).mono ?_
     rintro e w19 ⟨bc2, C2, rfl, hs1, hs2, hR, hCl, hbc, hne, hB0, hk⟩
     have HCL2 := Aside0.mk (show C2.length ≤ 1000000 by have := HL0.out; simp at hCl; omega)
     have HU19 := Aside0.mk (UInv_kept HU.out hk (fun k hk => hk.imp id (fun h => by omega)) hB0)
     have HL19 := Aside0.mk (SetM_mono (SetM_iff hs1 (M' := fun x => x ∈ liveU y1 l0_1 a2) (fun x => by unfold liveU; rw [List.mem_append, mem_spreadF, hR x, HSR.out])) (m := 3000001) (by have := HCL2.out; omega))
     have HD19 := Aside0.mk (SetM_kept HD.out hk (fun e => e.elim (fun e => by omega) (fun e => by omega)))
     clear hs1 hs2 hR hCl hbc hne hB0 hk hbl hg15 hz17 HU HL2 HD HS18 HZ hz0 hz1 hz12 hnl HCL2 hs63
     go_wp2_with (fail)
     refine (rising_calls _ _ _ dr _ HD19.out (by omega) HDS.out.1 HDS.out.2).mono ?_
     rintro e w20 ⟨v20, rfl, ho, hb⟩
     obtain ⟨A20, c20, rfl⟩ := Kd.R_slice ho
     have HZ20 := Aside0.mk (show w9.heap.size + 1 < w20.heap.size by have := SetM_lt HD19.out; have := hb.size; omega)
     have HR20 := Aside0.mk (show Kd.R (Kd.int .i64) 3 w20 w.heap.size (fun k => k < w20.heap.size) (.slice A20 dr.length c20) dr from Kd.R_lower (Kd.R_mono (Kd.R_bound ho) (fun k hk => hk.2.2.1)) (UInv_size HU19.out))
     have HU20 := Aside0.mk (UInv_below HU19.out hb)
     have HL20 := Aside0.mk (SetM_below HL19.out hb)
     clear HU19 HL19 HD19 ho hb
     go_wp2_with (fail)
     go_loopw [23, 125] (fun v23 v125 wr => ∃ (j : Nat) (jv : Int), j ≤ dr.length ∧ jv = (j : Int) ∧ v125 = .int .i64 jv ∧ Aside0 (UInv w wr g6 gp w5.heap.size w9.heap.size w4.heap.size nb bb (w8.heap.size + 1) (.slice A0_0 l0_0.length c0_0) (.slice A0_1 l0_1.length c0_1) (.slice A4 y1.length c4) y1) ∧ Aside0 (SetM wr w4.heap.size 3000001 (fun x => x ∈ liveU y1 l0_1 a2)) ∧
       Aside0 (Kd.R (Kd.int .i64) 3 wr w.heap.size (fun k => w20.heap.size ≤ k) v23 ((dr.take j).filter (goneP y1 l0_1 a2))) ∧ Aside0 (Kd.R (Kd.int .i64) 3 wr w.heap.size (fun k => k < w20.heap.size) (.slice A20 dr.length c20) dr) ∧ Aside0 (w20.heap.size ≤ wr.heap.size)) (fun _ v125 _ => dr.length - (intOf v125).toNat)
     case atStart => exact ⟨0, 0, by omega, rfl, rfl, HU20, HL20, ⟨Kd.R_nil _ _ _ _ _⟩, HR20, ⟨Nat.le_refl _⟩⟩
     clear HU20 HL20 HR20
     obtain ⟨j, jv, hj, hjv, rfl, HU, HL, HS23, HR, HZ⟩ := hrel
     rcases Nat.lt_or_ge j dr.length with hlt | hge
     ·have p0 : (0 : Int) ≤ jv := by omega
      have q0 : jv < (dr.length : Int) := by omega
      obtain ⟨A3, c3, hv3⟩ := Kd.R_slice HS23.out
      subst hv3
      obtain ⟨ad, ead, hx⟩ := Kd.at_int (Kd.R_reads' HR.out).2.2 jv p0 q0
      cases ead
      have hrd : rd dr jv = dr[j] := by rw [hjv]; simp [rd, List.getD_eq_getElem?_getD, hlt]
      obtain ⟨x, hxe⟩ : ∃ x, x = dr[j] := ⟨_, rfl⟩
      rw [hrd, ← hxe] at hx
      have HGET := Aside0.mk (show dr[j]? = some x by rw [hxe]; exact List.getElem?_eq_getElem hlt)
      have HWX := Aside0.mk (HDW.out x (List.mem_of_getElem? HGET.out))
      have hz12 := UInv_z12 HU.out
      have hp1 := LInv_p1 HU.out.1
      have Hjv := Aside0.mk hjv
      have Hlt := Aside0.mk hlt
      clear hrd hxe hjv hj hlt
      by_cases hin : x ∈ liveU y1 l0_1 a2
      case pos =>
       have HSP := Aside0.mk (show goneP y1 l0_1 a2 x = false by unfold goneP; simp [hin])
       have HIN := Aside0.mk hin
       clear hin
       go_wp2_with (first | (go_at_call 32; refine (has_calls _ _ _ x true _ HL.out HWX.out ⟨fun _ => HIN.out, fun _ => rfl⟩).mono ?_; rintro e w21 ⟨rfl, hb⟩; have HB18 := Aside0.mk hb; clear hb))
       refine ⟨⟨j + 1, jv + 1, by have := Hlt.out; omega, by have := Hjv.out; omega, rfl, ⟨UInv_below HU.out HB18.out⟩, ⟨SetM_below HL.out HB18.out⟩, ⟨by rw [take_filter_neg HGET.out HSP.out]; exact Kd.R_below HS23.out HB18.out⟩, ⟨Kd.R_below HR.out HB18.out⟩, ⟨by have := HB18.out.size; have := HZ.out; omega⟩⟩, ?_⟩
       show dr.length - (jv + 1).toNat < dr.length - jv.toNat
       have := Hjv.out
       have := Hlt.out
       omega
      case neg =>
       have HIN := Aside0.mk hin
       clear hin
       by_cases hlv : x ∈ l0_1
       case neg =>
        have HSP := Aside0.mk (show goneP y1 l0_1 a2 x = false by unfold goneP; simp [hlv])
        have HLV := Aside0.mk hlv
        clear hlv
        go_wp2_with (first
         | (go_at_call 32; refine (has_calls _ _ _ x false _ HL.out HWX.out ⟨(fun h => by cases h), fun h => absurd h HIN.out⟩).mono ?_; rintro e w21 ⟨rfl, hb⟩; have HU21 := Aside0.mk (UInv_below HU.out hb); have HB21 := Aside0.mk hb; have hp1' := LInv_p1 HU21.out.1; clear hb)
         | (go_at_call 45; refine (contains_calls _ _ l0_1 x false _ (Kd.C_below (Kd.V_reads' HS1.out).2.2 HU21.out.1.1.2.2) (by have := HL1.out; omega) ⟨(fun h => by cases h), fun h => absurd h HLV.out⟩).mono ?_; rintro e w22 ⟨rfl, hb⟩; have HB18 := Aside0.mk (below_step HB21.out hb); clear hb))
        refine ⟨⟨j + 1, jv + 1, by have := Hlt.out; omega, by have := Hjv.out; omega, rfl, ⟨UInv_below HU.out HB18.out⟩, ⟨SetM_below HL.out HB18.out⟩, ⟨by rw [take_filter_neg HGET.out HSP.out]; exact Kd.R_below HS23.out HB18.out⟩, ⟨Kd.R_below HR.out HB18.out⟩, ⟨by have := HB18.out.size; have := HZ.out; omega⟩⟩, ?_⟩
        show dr.length - (jv + 1).toNat < dr.length - jv.toNat
        have := Hjv.out
        have := Hlt.out
        omega
       case pos =>
        have HSP := Aside0.mk (show goneP y1 l0_1 a2 x = true by unfold goneP; have := HIN.out; simp [hlv, this])
        have HLV := Aside0.mk hlv
        clear hlv
        go_wp2_with (first
         | (go_at_call 32; refine (has_calls _ _ _ x false _ HL.out HWX.out ⟨(fun h => by cases h), fun h => absurd h HIN.out⟩).mono ?_; rintro e w21 ⟨rfl, hb⟩; have HU21 := Aside0.mk (UInv_below HU.out hb); have HB21 := Aside0.mk hb; have hp1' := LInv_p1 HU21.out.1; clear hb)
         | (go_at_call 45; refine (contains_calls _ _ l0_1 x true _ (Kd.C_below (Kd.V_reads' HS1.out).2.2 HU21.out.1.1.2.2) (by have := HL1.out; omega) ⟨fun _ => HLV.out, fun _ => rfl⟩).mono ?_; rintro e w22 ⟨rfl, hb⟩; have HB18 := Aside0.mk (below_step HB21.out hb); clear hb)
         | ((with_reducible refine gate_builtin (b := .append) (xs := #[.tmp 139, .tmp 141]) rfl ?_); at_builtin; refine Kd.R_append (Kd.int .i64) (w0 := w) w.heap.size rfl (.tmp 139) (.tmp 141) 23 3 (.int .i64 0) 8 rfl Try.underlying23 info3 rfl (by decide) (by omega) _ ((dr.take j).filter (goneP y1 l0_1 a2)) x [.int .i64 x] (fun k => w20.heap.size ≤ k) (fun _ => False) rfl rfl ?aP (fun _ hk => hk.elim) ?aF ?aO ?aB ?aS ?aL ?_; (case aP => rfl); (case aB => exact (UInv_below HU.out HB18.out).1.1.2.2); (case aF => exact (fun k hk => by have := HB18.out.size; have := HZ.out; omega)); (case aO => exact Kd.R_below HS23.out HB18.out); (case aS => exact UInv_size (UInv_below HU.out HB18.out)); (case aL => have := filter_take_len dr (goneP y1 l0_1 a2) j; have := HDL.out; omega); intro v4 w23 ho hb hg hat_; have HO19 := Aside0.mk ho; have HG19 := Aside0.mk hg; clear ho hb hg hat_))
        have hrow := Kd.R_below HS23.out HB18.out
        have hUb := UInv_below HU.out HB18.out
        have hLb := SetM_below HL.out HB18.out
        refine ⟨⟨j + 1, jv + 1, by have := Hlt.out; omega, by have := Hjv.out; omega, rfl, ⟨UInv_row hUb HG19.out (fun k e => by have := hrow.1 k e; have := HZ20.out; omega)⟩, ⟨SetM_grown hLb HG19.out (SetM_offR hLb hrow)⟩, ⟨by rw [take_filter_pos HGET.out HSP.out]; exact HO19.out⟩, ⟨Kd.R_grown (Kd.R_below HR.out HB18.out) HG19.out (fun k hk e => by have := hrow.1 k e.symm; omega)⟩, ⟨by have := HB18.out.size; have := HZ.out; have := HG19.out.size; omega⟩⟩, ?_⟩
        show dr.length - (jv + 1).toNat < dr.length - jv.toNat
        have := Hjv.out
        have := Hlt.out
        omega
     have hnl : ¬ (jv < (dr.length : Int)) := by omega
     obtain ⟨gr, hgr⟩ : ∃ l, l = goneU y1 l0_1 a2 := ⟨_, rfl⟩
     have hS23 := HS23.out
     rw [List.take_of_length_le (by omega), show dr.filter (goneP y1 l0_1 a2) = gr by rw [hgr, HDR.out]; rfl] at hS23
     obtain ⟨A23, c23, hv23⟩ := Kd.R_slice hS23
     subst hv23
     have HGR := Aside0.mk hgr
     have HS23 := Aside0.mk hS23
     have hz12 := UInv_z12 HU.out
     clear hS23 hgr hj hjv hge
     go_wp2_with (fail)
     refine (rising_calls _ _ _ (riseI (liveU y1 l0_1 a2)) _ HL.out (by omega) (riseI_sorted _) (fun x => mem_riseI)).mono ?_
     rintro e w24 ⟨v24, rfl, ho, hb⟩
     obtain ⟨A24, c24, rfl⟩ := Kd.R_slice ho
     have HU24 := Aside0.mk (UInv_below HU.out hb)
     have HO24 := Aside0.mk (Kd.R_mono (Kd.R_bound ho) (fun k hk => hk.2.1))
     have HG24 := Aside0.mk (Kd.R_below (Kd.R_bound HS23.out) hb)
     have HI := Aside0.mk HU24.out.1
     have HSZ := Aside0.mk (UInv_size HU.out)
     have hc0 := LInv_c0 HI.out
     have hc1 := LInv_c1 HI.out
     have hf0 := LInv_f0 HI.out
     have hf1 := LInv_f1 HI.out
     clear HU HL HS23 HR HZ ho hb hz12 hnl
     go_wp2_with (fail)
     refine bodyPost_ret (results_list (rs := [.cell 6 25, .tmp 7, .tmp 8]) rfl (by simp) (.cell g6 25 #[.slice A4 y1.length c4, .slice A24 (riseI (liveU y1 l0_1 a2)).length c24] (0, 0) _ rfl (by refine blk_put (cs := #[.slice A4 y1.length c4, .slice none 0 0]) ?_ 1 _ rfl; refine blk_put (cs := #[.slice none 0 0, .slice none 0 0]) ?_ 0 _ rfl; exact HI.out.1.1) Try.underlying25 rfl (by kernel_rfl) (.tmp (.tmp .nil)))) rfl ?_
     have hBf := fun (u u' : Value) => below_set (j := 1) (v := u') (below_set (j := 0) (v := u) HI.out.1.2.2 HI.out.1.2.1) HI.out.1.2.1
     rw [← HGR.out]
     have own3 := fun k (e : some k = (Value.slice A23 gr.length c23).ownBlock) => HG24.out.1 k e.symm
     exact ⟨_, _, _, rfl, Kd.V_mono (Kd.R_V (R_far2 (Kd.R_bound HU24.out.2.2.2.2.2.1) HI.out.1.1 (by decide) _ _)) (fun k hk => ⟨.inr hk.2.1, fun e => by have := own3 k e; have := UInv_bl HU24.out; have := HZ20.out; omega⟩), Kd.V_mono (Kd.R_V (R_far2 HO24.out HI.out.1.1 (by decide) _ _)) (fun k hk => ⟨.inr (Nat.le_trans HSZ.out hk), fun e => by have := own3 k e; omega⟩), Kd.R_mono (R_far2 HG24.out HI.out.1.1 (by decide) _ _) (fun k hk => hk.2.1), hBf _ _⟩

end Go.Proofs.Ytpiamehededilaa.P
