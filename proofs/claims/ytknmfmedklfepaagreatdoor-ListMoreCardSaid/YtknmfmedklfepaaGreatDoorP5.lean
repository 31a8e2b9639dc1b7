-- Written by this project's own program (wip/tools/hp.py), driving the kit's print; hand texts among it. Not trusted: Lean checks it.
-- half the indentation
import Derived.Test.YtknmfmedklfepaaGreatDoorP0
namespace Go.Proofs.YtknmfmedklfepaaGreatDoor.P
open Go.RowKit Go.Proofs.YtknmfmedklfepaaGreatDoorW.PrintWords Go.Proofs.YtknmfmedklfepaaGreatDoorW.PrintLast Go.Proofs.YtknmfmedklfepaaGreatDoorW.PrintMore
attribute [local go_sem] max2_int min2_int max_two min_two max_three min_three max_four min_four   -- for this text's walks alone
set_option linter.unusedVariables false
set_option linter.unusedSimpArgs false

/-! ### HAND octet_classes -/
def clsOf (c : Int) : Int := if 48 ≤ c ∧ c ≤ 57 then 1 else if (65 ≤ c ∧ c ≤ 90) ∨ (97 ≤ c ∧ c ≤ 122) then 2 else if c = 45 ∨ c = 46 ∨ c = 95 ∨ c = 126 then 3 else if c = 47 then 4 else if c = 32 ∨ c = 9 then 5 else if c = 10 then 6 else if c = 34 then 7 else if c = 40 then 8 else if c = 41 then 9 else 0
theorem clsOf_range (c : Int) : 0 ≤ clsOf c ∧ clsOf c < 10 := by
 unfold clsOf
 repeat' split
 all_goals omega
theorem C_new_ints (w : World) (k : IntKind) (xs : List Int) (e : Nat) (hl : xs.length ≤ 9223372036854775807) :
  Kd.C (Kd.int k) (w.alloc (.cells (xs.map (Value.int k)).toArray e)) (some ⟨w.heap.size, 0, none⟩) xs.length xs :=
 ⟨rfl, hl, fun _ => ⟨_, rfl, fun j p hj => ⟨[.int k p], rfl, rfl, fun i u hu => by
  obtain ⟨hjl, hjp⟩ := List.getElem?_eq_some_iff.1 hj
  have hi : i = 0 := by
   have := (List.getElem?_eq_some_iff.1 hu).1
   simp at this
   exact this
  subst hi
  simp at hu
  subst hu
  show (w.alloc _).cell? ((⟨w.heap.size, 0, none⟩ : Addr).add (j * 1 + 0)) = _
  rw [add_plain, World.cell?_alloc_at _ _ _ _ rfl]
  simp [hj]⟩⟩⟩
def clsStrs : List ByteArray := [⟨#[]⟩, ⟨#[48, 49, 50, 51, 52, 53, 54, 55, 56, 57]⟩, ⟨#[97, 98, 99, 100, 101, 102, 103, 104, 105, 106, 107, 108, 109, 110, 111, 112, 113, 114, 115, 116, 117, 118, 119, 120, 121, 122, 65, 66, 67, 68, 69, 70, 71, 72, 73, 74, 75, 76, 77, 78, 79, 80, 81, 82, 83, 84, 85, 86, 87, 88, 89, 90]⟩, ⟨#[45, 46, 95, 126]⟩, ⟨#[47]⟩, ⟨#[32, 9]⟩, ⟨#[10]⟩, ⟨#[34]⟩, ⟨#[40]⟩, ⟨#[41]⟩]
def clsS (k : Nat) : ByteArray := clsStrs.getD k ⟨#[]⟩
def cellsI (l : List Int) : Array Value := (l.map (Value.int .i64)).toArray
def clsTab : List Int := (List.range 256).map fun (c : Nat) => clsOf c
def clsT0 : List Int := List.replicate 256 0
def tabIn (t : List Int) (v : Int) : List UInt8 → List Int
 | [] => t
 | b :: l => tabIn (t.set b.toNat v) v l
def tabO : Nat → List Int
 | 0 => clsT0
 | k + 1 => tabIn (tabO k) k (clsS k).data.toList
theorem tabIn_length (v : Int) : ∀ (l : List UInt8) (t : List Int), (tabIn t v l).length = t.length
 | [], _ => rfl
 | b :: l, t => by rw [tabIn, tabIn_length v l]; simp
theorem tabIn_snoc (v : Int) (b : UInt8) : ∀ (l : List UInt8) (t : List Int), tabIn t v (l ++ [b]) = (tabIn t v l).set b.toNat v
 | [], _ => rfl
 | c :: l, t => by rw [List.cons_append, tabIn, tabIn, tabIn_snoc v b l]
theorem tabO_length : ∀ k, (tabO k).length = 256
 | 0 => List.length_replicate
 | k + 1 => by rw [tabO, tabIn_length, tabO_length k]
theorem tabO_ten : tabO 10 = clsTab := by decide +kernel
theorem cellsI_size (l : List Int) : (cellsI l).size = l.length := by simp [cellsI]
theorem cellsI_set (l : List Int) (i : Nat) (v : Int) : (cellsI l).setIfInBounds i (.int .i64 v) = cellsI (l.set i v) := by
 unfold cellsI
 apply Array.ext'
 simp [List.map_set]
theorem cellsI_get (l : List Int) (i : Nat) (h : i < l.length) : (cellsI l)[i]? = some (.int .i64 l[i]) := by simp [cellsI, h]
theorem clsS_size (k : Nat) : (clsS k).size ≤ 62 := by
 unfold clsS
 rw [List.getD_eq_getElem?_getD]
 by_cases h : k < 10
 ·obtain rfl | rfl | rfl | rfl | rfl | rfl | rfl | rfl | rfl | rfl : k = 0 ∨ k = 1 ∨ k = 2 ∨ k = 3 ∨ k = 4 ∨ k = 5 ∨ k = 6 ∨ k = 7 ∨ k = 8 ∨ k = 9 := by omega
  all_goals decide
 ·rw [List.getElem?_eq_none (by simp [clsStrs]; omega)]
  decide
set_option maxRecDepth 100000 in
set_option maxHeartbeats 400000 in
theorem classes_calls (w : World) : Calls Tryz.prog 129 #[] w fun e w' => e = .returned (.agg (cellsI clsTab)) ∧ Below w.heap.size w w' := by
 have hz : ∀ w, (zeroValue 140).run Tryz.prog w = .ok (.agg (cellsI clsT0)) w := fun _ => by kernel_rfl
 have hidx : ∀ (W : World) (k : Nat), k < 10 → (Instr.index 152 (.agg #[.string ⟨#[]⟩, .string ⟨#[48, 49, 50, 51, 52, 53, 54, 55, 56, 57]⟩, .string ⟨#[97, 98, 99, 100, 101, 102, 103, 104, 105, 106, 107, 108, 109, 110, 111, 112, 113, 114, 115, 116, 117, 118, 119, 120, 121, 122, 65, 66, 67, 68, 69, 70, 71, 72, 73, 74, 75, 76, 77, 78, 79, 80, 81, 82, 83, 84, 85, 86, 87, 88, 89, 90]⟩, .string ⟨#[45, 46, 95, 126]⟩, .string ⟨#[47]⟩, .string ⟨#[32, 9]⟩, .string ⟨#[10]⟩, .string ⟨#[34]⟩, .string ⟨#[40]⟩, .string ⟨#[41]⟩]) (.int .i64 k)).run Tryz.prog W = .ok (.string (clsS k)) W := by
  intro W k hk
  obtain rfl | rfl | rfl | rfl | rfl | rfl | rfl | rfl | rfl | rfl : k = 0 ∨ k = 1 ∨ k = 2 ∨ k = 3 ∨ k = 4 ∨ k = 5 ∨ k = 6 ∨ k = 7 ∨ k = 8 ∨ k = 9 := by omega
  all_goals kernel_rfl
 have Hidx := Lib.hid hidx
 clear hidx
 go_enter Tryz.func129, Tryz.ntmps129
 go_wp2
 go_loopw [5] (fun v5 wr => ∃ k : Nat, k ≤ 10 ∧ v5 = .int .i64 k ∧ wr = w.alloc (.cells (cellsI (tabO k)) 140)) (fun v5 _ => 10 - (intOf v5).toNat)
 case atStart => exact ⟨0, by omega, rfl, rfl⟩
 case round =>
  obtain ⟨k, hk, rfl, rfl⟩ := hrel
  by_cases hlt : k < 10
  ·have hi := fun W => Hidx.out W k hlt
   have hb : decide ((k : Int) < 10) = true := decide_eq_true (by omega)
   obtain ⟨s, hs⟩ : ∃ s, s = clsS k := ⟨_, rfl⟩
   rw [← hs] at hi
   obtain ⟨T, hT⟩ : ∃ T, T = tabO k := ⟨_, rfl⟩
   have hTl : T.length = 256 := by rw [hT]; exact tabO_length k
   have HT := Lib.hid hT
   have Hs := Lib.hid hs
   have HTl := Lib.hid hTl
   have hsz : s.size ≤ 62 := by rw [hs]; exact clsS_size k
   rw [← hT]
   clear hT hs hTl
   go_wp2
   go_loopw [11] (fun v11 wr => ∃ j : Nat, j ≤ s.size ∧ v11 = .int .i64 j ∧ wr = w.alloc (.cells (cellsI (tabIn T k (s.data.toList.take j))) 140)) (fun v11 _ => s.size - (intOf v11).toNat)
   case atStart => exact ⟨0, by omega, rfl, rfl⟩
   case round =>
    obtain ⟨j, hj, rfl, rfl⟩ := hrel
    by_cases hjl : j < s.size
    ·have hb2 : decide ((j : Int) < (s.size : Int)) = true := decide_eq_true (by omega)
     have hb3 := s[j].toNat_lt
     have hl : (tabIn T k (s.data.toList.take j)).length = 256 := by rw [tabIn_length]; exact HTl.out
     have hc := cellsI_get (tabIn T k (s.data.toList.take j)) s[j].toNat (by omega)
     have hsz2 := cellsI_size (tabIn T k (s.data.toList.take j))
     rw [hl] at hsz2
     have hfin : (tabIn T k (s.data.toList.take j)).set s[j].toNat k = tabIn T k (s.data.toList.take (j + 1)) := by
      rw [List.take_succ_eq_append_getElem (by simpa using hjl), tabIn_snoc]; rfl
     have Hfin := Lib.hid hfin
     clear hfin
     go_wp2
     refine ⟨⟨j + 1, by omega, by go_num, ?_⟩, by simp [intOf]; omega⟩
     rw [cellsI_set, Hfin.out]
    ·have hje : j = s.size := by omega
     have hb2 : decide ((j : Int) < (s.size : Int)) = false := decide_eq_false (by omega)
     have hfin : tabIn T k (s.data.toList.take j) = tabO (k + 1) := by
      rw [tabO, ← HT.out, ← Hs.out, hje, List.take_of_length_le (by simp)]
     have Hfin := Lib.hid hfin
     clear hfin hje
     go_wp2
     refine ⟨⟨k + 1, by omega, by go_num, ?_⟩, by simp [intOf]; omega⟩
     rw [Hfin.out]
  ·obtain rfl : k = 10 := by omega
   have hone : (cellsI (tabO 10)).all (·.oneCell') = true := by simp [cellsI, Value.oneCell']
   have hi : (Tryz.prog.info? 140).map (·.size) = some (cellsI (tabO 10)).size := by rw [cellsI_size, tabO_length]; kernel_rfl
   obtain ⟨c, hc⟩ : ∃ c, c = cellsI (tabO 10) := ⟨_, rfl⟩
   rw [← hc] at hone hi ⊢
   have Hc := Lib.hid hc
   have Hone := Lib.hid hone
   have Hi := Lib.hid hi
   clear hc hone hi
   go_wp2
   refine wp_load_row 140 (.tmp 0) rfl w.heap.size rfl 140 c (0, 0) _ (heap_alloc_last w _) Tryz.underlying140 rfl Hi.out ?_
   have hst2 := run_storeCells_new (P := Tryz.prog) w 140 c c Hi.out rfl Hone.out
   have hcs : c.size = 256 := by rw [Hc.out, cellsI_size, tabO_length]
   go_wp2
   refine bodyPost_ret (v := .agg c) ?_ rfl ⟨?_, (Below.refl _ _).alloc (Nat.le_refl _) _⟩
   ·exact results_cell_row (p := 0) (ty := 140) Tryz.results129 _ _ w.heap.size 140 c (0, 0) _ rfl (heap_alloc_last w _) Tryz.underlying140 rfl Hi.out
   ·rw [Hc.out, tabO_ten]
theorem cellsI_at (l : List Int) (W : World) (c : Int) (h0 : 0 ≤ c) (h1 : c < 256) (hl : l.length = 256) : (Instr.index 140 (.agg (cellsI l)) (.int .u8 c)).run Tryz.prog W = .ok (.int .i64 (l.getD c.toNat 0)) W := by
 obtain ⟨n, rfl⟩ := Int.eq_ofNat_of_zero_le h0
 have hg := cellsI_get l n (by omega)
 have hn : n < 256 := by omega
 unfold Instr.index
 simp [go_sem, hl, hg, hn]
theorem clsTab_at (c : Int) (h0 : 0 ≤ c) (h1 : c < 256) : clsTab.getD c.toNat 0 = clsOf c := by
 obtain ⟨n, rfl⟩ := Int.eq_ofNat_of_zero_le h0
 unfold clsTab
 rw [List.getD_eq_getElem?_getD, List.getElem?_map, Int.toNat_natCast, List.getElem?_range (by omega)]
 rfl
theorem clsTab_length : clsTab.length = 256 := by rw [← tabO_ten, tabO_length]

end Go.Proofs.YtknmfmedklfepaaGreatDoor.P
