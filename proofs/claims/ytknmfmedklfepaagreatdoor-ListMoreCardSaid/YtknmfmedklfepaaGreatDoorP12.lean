-- Written by this project's own program (wip/tools/hp.py), driving the kit's print; hand texts among it. Not trusted: Lean checks it.
-- half the indentation
import Derived.Test.YtknmfmedklfepaaGreatDoorP0
import Derived.Test.YtknmfmedklfepaaGreatDoorP5
namespace Go.Proofs.YtknmfmedklfepaaGreatDoor.P
open Go.RowKit Go.Proofs.YtknmfmedklfepaaGreatDoorW.PrintWords Go.Proofs.YtknmfmedklfepaaGreatDoorW.PrintLast Go.Proofs.YtknmfmedklfepaaGreatDoorW.PrintMore
attribute [local go_sem] max2_int min2_int max_two min_two max_three min_three max_four min_four   -- for this text's walks alone
set_option linter.unusedVariables false
set_option linter.unusedSimpArgs false

/-! ### HAND octet_All -/
def allOf (l : List Int) (s : List UInt8) : Bool := s.all fun c => l.contains (clsOf c.toNat)
def octet_All.f (a0 : ByteArray) (l1 : List Int) : Option Bool := if a0.size ≤ 1000000000 then some (allOf l1 a0.data.toList) else none
def cellsB (l : List Bool) : Array Value := (l.map Value.bool).toArray
theorem cellsB_size (l : List Bool) : (cellsB l).size = l.length := by simp [cellsB]
theorem cellsB_set (l : List Bool) (i : Nat) (v : Bool) : (cellsB l).setIfInBounds i (.bool v) = cellsB (l.set i v) := by
 unfold cellsB
 apply Array.ext'
 simp [List.map_set]
theorem cellsB_get (l : List Bool) (i : Nat) (h : i < l.length) : (cellsB l)[i]? = some (.bool l[i]) := by simp [cellsB, h]
def mayOf (l : List Int) : List Bool := (List.range 10).map fun (k : Nat) => l.contains (k : Int)
theorem mayOf_length (l : List Int) : (mayOf l).length = 10 := by simp [mayOf]
theorem mayOf_get (l : List Int) (k : Nat) (h : k < (mayOf l).length) : (mayOf l)[k] = l.contains (k : Int) := by simp [mayOf]
theorem mayOf_snoc_in (l : List Int) (x : Nat) : (mayOf l).set x true = mayOf (l ++ [(x : Int)]) := by
 apply List.ext_getElem
 ·simp [mayOf_length]
 ·intro i h1 h2
  rw [mayOf_length] at h2
  rw [mayOf_get, List.getElem_set]
  by_cases hx : x = i
  ·subst hx; simp
  ·rw [if_neg hx, mayOf_get]
   have : ¬ (i : Int) = (x : Int) := by omega
   simp [this]
theorem mayOf_snoc_out (l : List Int) (x : Int) (h : ¬ (0 ≤ x ∧ x < 10)) : mayOf (l ++ [x]) = mayOf l := by
 apply List.ext_getElem
 ·simp [mayOf_length]
 ·intro i h1 h2
  rw [mayOf_length] at h2
  rw [mayOf_get, mayOf_get]
  have : ¬ (i : Int) = x := by omega
  simp [this]
theorem take_snoc_rd (l : List Int) (k : Nat) (h : k < l.length) : l.take (k + 1) = l.take k ++ [rd l k] := by
 rw [List.take_succ_eq_append_getElem h]
 simp [rd, List.getD_eq_getElem?_getD, h]
set_option maxRecDepth 100000 in
set_option maxHeartbeats 400000 in
theorem octet_All.calls (a0 : ByteArray) (A1 : Option Addr) (c1 : Nat) (l1 : List Int) (r : Bool) (w : World) (hr1 : Kd.C (Kd.int .i64) w A1 l1.length l1) (hc1 : l1.length ≤ c1) (h : octet_All.f a0 l1 = some r) :
  Calls Tryz.prog 109 #[.string a0, .slice A1 l1.length c1] w fun e w' => e = .returned (.bool r) ∧ Below w.heap.size w w' := by
 unfold octet_All.f at h
 by_cases hsa : a0.size ≤ 1000000000
 case neg => rw [if_neg hsa] at h; cases h
 rw [if_pos hsa] at h
 obtain rfl := Option.some.inj h
 clear h
 obtain ⟨c, hc⟩ : ∃ c, c = cellsI clsTab := ⟨_, rfl⟩
 have hcl := classes_calls w
 rw [← hc] at hcl
 have Hc := Lib.hid hc
 clear hc
 go_enter Tryz.func109, Tryz.ntmps109
 go_wp2_with fail
 refine hcl.mono ?_
 clear hcl
 rintro e w1 ⟨rfl, hb⟩
 have hz : ∀ w, (zeroValue 140).run Tryz.prog w = .ok (.agg (cellsI clsT0)) w := fun _ => by kernel_rfl
 have hone : c.all (·.oneCell') = true := by rw [Hc.out]; simp [cellsI, Value.oneCell']
 have hcs : c.size = 256 := by rw [Hc.out, cellsI_size, clsTab_length]
 have hst2 := run_storeCells_new (P := Tryz.prog) w1 140 (cellsI clsT0) c (by rw [hcs]; kernel_rfl) (by rw [hcs, cellsI_size]; exact List.length_replicate) hone
 clear hone
 have hnl : l1.length ≤ 9223372036854775807 := hr1.2.1
 have hB : ∀ (X : Array Value), Below w.heap.size w ((w1.alloc (.cells c 140)).alloc (.cells X 142)) := fun X => below_alloc (below_alloc hb _) _
 have HB := Lib.hid hB
 clear hB hst2
 have Hst2 := Lib.hid (run_storeCells_new (P := Tryz.prog) w1 140 (cellsI clsT0) c (by rw [hcs]; kernel_rfl) (by rw [hcs, cellsI_size]; exact List.length_replicate) (by rw [Hc.out]; simp [cellsI, Value.oneCell']))
 have hst2 := Hst2.out
 go_wp2
 clear hst2 hz
 go_loopw [13] (fun v13 wr => ∃ k : Nat, k ≤ l1.length ∧ v13 = .int .i64 k ∧ wr = (w1.alloc (.cells c 140)).alloc (.cells (cellsB (mayOf (l1.take k))) 142)) (fun v13 _ => l1.length - (intOf v13).toNat)
 case atStart => exact ⟨0, by omega, rfl, rfl⟩
 case round =>
  obtain ⟨k, hk, rfl, rfl⟩ := hrel
  by_cases hlt : k < l1.length
  ·have hb1 : decide ((k : Int) < (l1.length : Int)) = true := decide_eq_true (by omega)
   obtain ⟨ad, e1, hx0⟩ := Kd.at_int hr1 (k : Int) (by omega) (by omega)
   have hsn := take_snoc_rd l1 k hlt
   obtain ⟨x, hx⟩ : ∃ x, x = rd l1 k := ⟨_, rfl⟩
   rw [← hx] at hx0 hsn
   have hx1 := ((HB.out (cellsB (mayOf (l1.take k)))).cell (World.block_lt_of_cell? w _ hx0)).trans hx0
   rw [Int.toNat_natCast] at hx1
   have Hsn := Lib.hid hsn
   clear hx0 hx hsn
   subst e1
   have hsz := cellsB_size (mayOf (l1.take k))
   rw [mayOf_length] at hsz
   by_cases h0 : 0 ≤ x
   ·by_cases h10 : x < 10
    ·obtain ⟨n, rfl⟩ := Int.eq_ofNat_of_zero_le h0
     have hg := cellsB_get (mayOf (l1.take k)) n (by rw [mayOf_length]; omega)
     have hd1 : decide ((n : Int) ≥ 0) = true := decide_eq_true (by omega)
     have hd2 : decide ((n : Int) < 10) = true := decide_eq_true (by omega)
     have hset := mayOf_snoc_in (l1.take k) n
     rw [← Hsn.out] at hset
     have Hset := Lib.hid hset
     clear hset
     go_wp2
     refine ⟨⟨k + 1, by omega, by go_num, ?_⟩, by simp [intOf]; omega⟩
     rw [cellsB_set, Hset.out]
    ·have hd1 : decide (x ≥ 0) = true := decide_eq_true (by omega)
     have hd2 : decide (x < 10) = false := decide_eq_false (by omega)
     have hset := mayOf_snoc_out (l1.take k) x (by omega)
     rw [← Hsn.out] at hset
     have Hset := Lib.hid hset
     clear hset
     go_wp2
     refine ⟨⟨k + 1, by omega, by go_num, ?_⟩, by simp [intOf]; omega⟩
     rw [Hset.out]
   ·have hd1 : decide (x ≥ 0) = false := decide_eq_false (by omega)
    have hset := mayOf_snoc_out (l1.take k) x (by omega)
    rw [← Hsn.out] at hset
    have Hset := Lib.hid hset
    clear hset
    go_wp2
    refine ⟨⟨k + 1, by omega, by go_num, ?_⟩, by simp [intOf]; omega⟩
    rw [Hset.out]
  ·have hb1 : decide ((k : Int) < (l1.length : Int)) = false := decide_eq_false (by omega)
   have htk : l1.take k = l1 := List.take_of_length_le (by omega)
   rw [htk]
   obtain ⟨B, hBd⟩ : ∃ B, B = cellsB (mayOf l1) := ⟨_, rfl⟩
   have hbelow := HB.out B
   have hBs : B.size = 10 := by rw [hBd, cellsB_size, mayOf_length]
   rw [← hBd]
   have HBd := Lib.hid hBd
   have Hbelow := Lib.hid hbelow
   clear hBd htk hbelow
   go_wp2
   go_loop [28] (fun v28 => ∃ j : Nat, j ≤ a0.size ∧ v28 = .int .i64 j ∧ allOf l1 (a0.data.toList.take j) = true) (fun v28 => a0.size - (intOf v28).toNat)
   case atStart => exact ⟨0, by omega, rfl, rfl⟩
   case round =>
    obtain ⟨j, hj, rfl, hall⟩ := hrel
    have Hall := Lib.hid hall
    clear hall
    by_cases hjl : j < a0.size
    ·have hb2 : decide ((j : Int) < (a0.size : Int)) = true := decide_eq_true (by omega)
     have hb3 := a0[j].toNat_lt
     have hts : a0.data.toList.take (j + 1) = a0.data.toList.take j ++ [a0[j]] := by
      rw [List.take_succ_eq_append_getElem (by simpa using hjl)]; rfl
     have Hts := Lib.hid hts
     clear hts
     have hr := clsOf_range a0[j].toNat
     have hcg : c[a0[j].toNat]? = some (.int .i64 (clsOf a0[j].toNat)) := by
      rw [Hc.out, cellsI_get clsTab _ (by rw [clsTab_length]; omega)]
      have := clsTab_at (a0[j].toNat : Int) (by omega) (by omega)
      rw [Int.toNat_natCast, List.getD_eq_getElem?_getD, List.getElem?_eq_getElem (by rw [clsTab_length]; omega)] at this
      rw [← this]; rfl
     obtain ⟨m, hm⟩ := Int.eq_ofNat_of_zero_le hr.1
     have hm10 : m < 10 := by omega
     have hbg : B[m]? = some (.bool (l1.contains (clsOf a0[j].toNat))) := by
      rw [HBd.out, cellsB_get _ _ (by rw [mayOf_length]; omega), mayOf_get, hm]
     clear hr
     cases hcn : l1.contains (clsOf a0[j].toNat) with
     | true =>
      rw [hcn] at hbg
      rw [hm] at hcg
      have hcg2 : c[a0[j].toNat] = .int .i64 m := Option.some.inj ((Array.getElem?_eq_getElem (by omega)).symm.trans hcg)
      have hbg2 : B[m] = .bool true := Option.some.inj ((Array.getElem?_eq_getElem (by omega)).symm.trans hbg)
      have Hcn := Lib.hid hcn
      clear hcn hm
      go_wp2
      refine ⟨⟨j + 1, by omega, by go_num, ?_⟩, by simp [intOf]; omega⟩
      have h1 := Hall.out
      have h2 := Hcn.out
      unfold allOf at h1 ⊢
      rw [Hts.out, List.all_append, h1]
      simpa using h2
     | false =>
      rw [hcn] at hbg
      rw [hm] at hcg
      have hcg2 : c[a0[j].toNat] = .int .i64 m := Option.some.inj ((Array.getElem?_eq_getElem (by omega)).symm.trans hcg)
      have hbg2 : B[m] = .bool false := Option.some.inj ((Array.getElem?_eq_getElem (by omega)).symm.trans hbg)
      have hfin : allOf l1 a0.data.toList = false := by
       unfold allOf
       rw [List.all_eq_false]
       exact ⟨a0[j], Array.getElem_mem_toList .., by simpa using hcn⟩
      have Hfin := Lib.hid hfin
      clear hcn hm hfin
      go_wp2
      go_ret
      exact ⟨by rw [Hfin.out]; rfl, Hbelow.out⟩
    ·have hb2 : decide ((j : Int) < (a0.size : Int)) = false := decide_eq_false (by omega)
     have hfin : allOf l1 a0.data.toList = true := by
      have := Hall.out
      rwa [List.take_of_length_le (by simp; omega)] at this
     have Hfin := Lib.hid hfin
     clear hfin
     go_wp2
     go_ret
     exact ⟨by rw [Hfin.out]; rfl, Hbelow.out⟩

end Go.Proofs.YtknmfmedklfepaaGreatDoor.P
