-- Written by this project's own program (wip/tools/hp.py), driving the kit's print; hand texts among it. Not trusted: Lean checks it.
-- half the indentation
import Derived.Test.YtknmfmedklfepaaGreatDoorP0
namespace Go.Proofs.YtknmfmedklfepaaGreatDoor.P
open Go.RowKit Go.Proofs.YtknmfmedklfepaaGreatDoorW.PrintWords Go.Proofs.YtknmfmedklfepaaGreatDoorW.PrintLast Go.Proofs.YtknmfmedklfepaaGreatDoorW.PrintMore
attribute [local go_sem] max2_int min2_int max_two min_two max_three min_three max_four min_four   -- for this text's walks alone
set_option linter.unusedVariables false
set_option linter.unusedSimpArgs false

/-! ### HAND octet_Parts -/
def partsL (c : UInt8) : List UInt8 → List (List UInt8)
 | [] => [[]]
 | b :: l => if b = c then [] :: partsL c l else (b :: (partsL c l).headD []) :: (partsL c l).tail
theorem splitK_parts (c : UInt8) : ∀ l : List UInt8, Lib.splitK [c] 0 (l.count c) l = partsL c l
 | [] => rfl
 | b :: l => by
  have ih := splitK_parts c l
  have hix : Lib.index (b :: l) [c] = if b = c then 0 else if Lib.index l [c] == -1 then -1 else Lib.index l [c] + 1 := by
   rw [Lib.index]
   by_cases h : b = c
   ·subst h; simp [List.isPrefixOf]
   ·have hp : ([c] : List UInt8).isPrefixOf (b :: l) = false := by simp [List.isPrefixOf, Ne.symm h]
    rw [hp]; simp [h]
  by_cases h : b = c
  ·subst h
   rw [List.count_cons_self, Lib.splitK, hix, if_pos rfl, partsL, if_pos rfl]
   simp [ih]
  ·rw [List.count_cons_of_ne (by simpa using h), partsL, if_neg h, ← ih]
   rw [if_neg h] at hix
   cases hc : l.count c with
   | zero => simp [Lib.splitK]
   | succ k =>
    have hne : Lib.index l [c] ≠ -1 := by
     intro e
     have := Lib.count_miss e
     rw [Lib.count_one] at this
     omega
    have hge := Lib.index_ge l [c]
    obtain ⟨i, hi⟩ : ∃ i : Nat, Lib.index l [c] = i := ⟨(Lib.index l [c]).toNat, by omega⟩
    have hb : (Lib.index l [c] == -1) = false := beq_eq_false_iff_ne.2 hne
    rw [hb] at hix
    simp only [if_neg (show ¬ (false = true) by decide)] at hix
    rw [Lib.splitK, Lib.splitK, hix, hb, hi]
    have h2 : (((i : Int) + 1) == -1) = false := beq_eq_false_iff_ne.2 (by omega)
    rw [h2]
    have h3 : ((i : Int) + 1).toNat = i + 1 := by omega
    simp [h3]
theorem pieces_eq' (l : List ByteArray) (fl : List (List UInt8)) (h : l.map (·.data.toList) = fl) : l = fl.map fun x => ⟨x.toArray⟩ := by
 subst h
 rw [List.map_map]
 conv => lhs; rw [← List.map_id l]
 apply List.map_congr_left
 intro a _
 cases a
 simp
theorem splitB_parts (s : ByteArray) (c : UInt8) : Lib.splitB ⟨#[c]⟩ 0 (Lib.countB s ⟨#[c]⟩) s = (partsL c s.data.toList).map fun x => ⟨x.toArray⟩ := by
 apply pieces_eq'
 rw [Lib.splitB_data, ← splitK_parts]
 show Lib.splitK [c] 0 (Lib.count s.data.toList [c]) s.data.toList = _
 rw [Lib.count_one]
/-- strings.Split at a sep of one byte: the pieces, in a new block; the rest of the world is as it was. -/
theorem split_one (s : ByteArray) (c : UInt8) (w : World) (hs : s.size < 4294967281) :
  Calls Tryz.prog 126 #[.string s, .string ⟨#[c]⟩, .int .i64 0, .int .i64 (-1)] w fun e w' =>
   e = .returned (.slice (some ⟨w.heap.size, 0, none⟩) ((partsL c s.data.toList).map fun x => (⟨x.toArray⟩ : ByteArray)).length ((partsL c s.data.toList).map fun x => (⟨x.toArray⟩ : ByteArray)).length) ∧
   w' = w.alloc (.cells (((partsL c s.data.toList).map fun x => (⟨x.toArray⟩ : ByteArray)).map Value.string).toArray 9) := by
 have h1 : 1 ≤ (⟨#[c]⟩ : ByteArray).size := Nat.le_refl 1
 have hle := Lib.countB_le ⟨#[c]⟩ h1 s.size s (Nat.le_refl _)
 have hlen := Lib.splitB_all ⟨#[c]⟩ h1 0 _ s rfl
 have hc := Any.strings_genSplit_core Tryz.lays221 (by kernel_rfl) s ⟨#[c]⟩ 0 (-1) (Lib.countB s ⟨#[c]⟩ + 1) w hs h1 (Nat.zero_le _)
  (fun x cs hx => (Any.strings_Index_one { Tryz.lays221 with } x c _).mono fun e w' ⟨he, hw⟩ => ⟨by rw [he]; show _ = Ending.returned (Value.int .i64 (Lib.index x.data.toList [c])); rw [Lib.index_one], hw⟩)
  ((Any.strings_Count_one { Tryz.lays221 with } s c w).mono fun e w' ⟨he, hw⟩ => ⟨by rw [he]; show _ = Ending.returned (Value.int .i64 ((Lib.count s.data.toList [c] : Nat) : Int)); rw [Lib.count_one]; rfl, hw⟩)
  (by decide) (by decide) (by rw [if_pos (by decide)]; omega)
 rw [Nat.add_sub_cancel, hlen] at hc
 have e2 : Lib.cellsOf (Lib.splitB ⟨#[c]⟩ 0 (Lib.countB s ⟨#[c]⟩) s) (Lib.countB s ⟨#[c]⟩ + 1) = ((Lib.splitB ⟨#[c]⟩ 0 (Lib.countB s ⟨#[c]⟩) s).map Value.string).toArray := by rw [← hlen]; exact Lib.cellsOf_full _
 rw [e2, ← hlen, splitB_parts] at hc
 exact hc
set_option maxHeartbeats 400000 in
theorem strSplit_one (s : ByteArray) (c : UInt8) (P : List ByteArray) (hP : P = (partsL c s.data.toList).map fun x => (⟨x.toArray⟩ : ByteArray)) (w : World) (hs : s.size < 4294967281) :
  Calls Tryz.prog 105 #[.string s, .string ⟨#[c]⟩] w fun e w' => e = .returned (.slice (some ⟨w.heap.size, 0, none⟩) P.length P.length) ∧ w' = w.alloc (.cells (P.map Value.string).toArray 9) := by
 have h := split_one s c w hs
 rw [← hP] at h
 have H := Lib.hid h
 clear h hP
 go_enter Tryz.func105, Tryz.ntmps105
 go_wp2_with fail
 refine H.out.mono ?_
 rintro e w' ⟨rfl, rfl⟩
 go_wp2
 go_ret
 exact ⟨rfl, rfl⟩
theorem R_new_strings (w : World) (xs : List ByteArray) (base e : Nat) (hb : base ≤ w.heap.size) (hl : xs.length ≤ maxLen) :
  Kd.R Kd.string e (w.alloc (.cells (xs.map Value.string).toArray e)) base (fun _ => True) (.slice (some ⟨w.heap.size, 0, none⟩) xs.length xs.length) xs := by
 refine ⟨fun _ _ => trivial, xs.map Value.string, ⟨by simp [Kd.string, Kd.scalar], .inr ⟨w.heap.size, xs.length, (xs.map Value.string).toArray, rfl, hb, heap_alloc_new w _, Nat.le_refl _, hl, by simp [Kd.string, Kd.scalar], by simp [Kd.string, Kd.scalar, List.take_of_length_le]⟩⟩, by simp [Kd.string, Kd.scalar], fun j p hj => ?_⟩
 show ((xs.map Value.string).drop (j * 1)).take 1 = [Value.string p]
 obtain ⟨hjl, hjp⟩ := List.getElem?_eq_some_iff.1 hj
 rw [Nat.mul_one, List.drop_eq_getElem_cons (by simpa using hjl)]
 simp [hjp]
theorem partsL_length (c : UInt8) : ∀ l : List UInt8, (partsL c l).length ≤ l.length + 1 ∧ 1 ≤ (partsL c l).length
 | [] => by simp [partsL]
 | b :: l => by
  have := partsL_length c l
  rw [partsL]
  split <;> simp <;> omega
def octet_Parts.f (a0 : ByteArray) (a1 : Int) : Option (List ByteArray) := if 0 ≤ a1 then if a1 < 256 then if a0.size ≤ 1000000000 then some ((partsL a1.toNat.toUInt8 a0.data.toList).map fun x => ⟨x.toArray⟩) else none else none else none
set_option maxRecDepth 100000 in
set_option maxHeartbeats 400000 in
theorem octet_Parts.calls (a0 : ByteArray) (a1 : Int) (r : List ByteArray) (w : World) (h : octet_Parts.f a0 a1 = some r) :
  Calls Tryz.prog 88 #[.string a0, .int .u8 a1] w fun e w' => ∃ v0_ : Value, e = .returned (v0_) ∧ Kd.R Kd.string 9 w' w.heap.size (fun _ => True) v0_ r ∧ Below w.heap.size w w' := by
 unfold octet_Parts.f at h
 by_cases h0 : 0 ≤ a1
 case neg => rw [if_neg h0] at h; cases h
 by_cases h1 : a1 < 256
 case neg => rw [if_pos h0, if_neg h1] at h; cases h
 by_cases h2 : a0.size ≤ 1000000000
 case neg => rw [if_pos h0, if_pos h1, if_neg h2] at h; cases h
 rw [if_pos h0, if_pos h1, if_pos h2] at h
 obtain rfl := Option.some.inj h
 clear h
 obtain ⟨c, hc⟩ : ∃ c, c = a1.toNat.toUInt8 := ⟨_, rfl⟩
 rw [← hc]
 have hlen := (partsL_length c a0.data.toList).1
 have hlen2 : a0.data.toList.length = a0.size := by simp
 obtain ⟨P, hP⟩ : ∃ P, P = (partsL c a0.data.toList).map fun x => (⟨x.toArray⟩ : ByteArray) := ⟨_, rfl⟩
 have hPl : P.length ≤ maxLen := by rw [hP, List.length_map]; unfold maxLen; omega
 have hsp := fun W => strSplit_one a0 c P hP W (by omega)
 rw [← hP]
 have Hc := Lib.hid hc
 have Hsp := Lib.hid hsp
 have HPl := Lib.hid hPl
 clear hc hsp hP hlen hlen2 hPl
 have hrd : ReadsInt (w.alloc (.cells #[.int .u8 a1] 5)) .u8 (some ⟨w.heap.size, 0, none⟩) 1 [a1] :=
  ⟨rfl, by decide, fun _ => ⟨_, rfl, fun j hj => by
   obtain rfl : j = 0 := by omega
   show (w.alloc (.cells #[.int .u8 a1] 5)).cell? ((⟨w.heap.size, 0, none⟩ : Addr).add 0) = _
   rw [add_plain, World.cell?_alloc_at _ _ _ _ rfl]
   rfl⟩⟩
 have hcv : (convert 124 9 (.slice (some ⟨w.heap.size, 0, none⟩) 1 1)).run Tryz.prog (w.alloc (.cells #[.int .u8 a1] 5)) = .ok (.string ⟨#[c]⟩) (w.alloc (.cells #[.int .u8 a1] 5)) := by
  rw [string_of_reads Tryz.underlying124 Tryz.underlying5 Tryz.underlying9 hrd, Hc.out]
  rfl
 clear hrd
 go_enter Tryz.func88, Tryz.ntmps88
 go_wp2_with fail
 refine (Hsp.out _).mono ?_
 rintro e w' ⟨rfl, rfl⟩
 go_wp2
 go_ret
 have hR := R_new_strings (w.alloc (.cells #[.int .u8 a1] 5)) P w.heap.size 9 (below_size (below_alloc (Below.refl _ _) _)) HPl.out
 have hz : (w.alloc (.cells #[.int .u8 a1] 5)).heap.size = w.heap.size + 1 := by show (w.heap.push _).size = _; exact Array.size_push _
 rw [hz] at hR
 exact ⟨.slice (some ⟨w.heap.size + 1, 0, none⟩) P.length P.length, rfl, hR, below_alloc (below_alloc (Below.refl _ _) _) _⟩

end Go.Proofs.YtknmfmedklfepaaGreatDoor.P
