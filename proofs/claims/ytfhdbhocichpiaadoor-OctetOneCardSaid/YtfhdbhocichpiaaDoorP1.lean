-- Written by this project's own program (wip/tools/hp.py), driving the kit's print; hand texts among it. Not trusted: Lean checks it.
import Derived.Test.YtfhdbhocichpiaaDoorP0
namespace Go.Proofs.YtfhdbhocichpiaaDoor.P
open Go.RowKit Go.Proofs.YtfhdbhocichpiaaDoorW.PrintWords Go.Proofs.YtfhdbhocichpiaaDoorW.PrintLast Go.Proofs.YtfhdbhocichpiaaDoorW.PrintMore
attribute [local go_sem] max2_int min2_int max_two min_two max_three min_three max_four min_four   -- for this text's walks alone
set_option linter.unusedVariables false
set_option linter.unusedSimpArgs false

/-! ### graftwoodlaw01_Few: function 10 -/
def graftwoodlaw01_Few.f (a0 : ByteArray) : Option (ByteArray) := if (a0.size : Int) > 400 then (if 0 ≤ 400 then (if 400 ≤ (a0.size : Int) then (some (a0.extract 0 400)) else (none)) else (none)) else (some a0)
set_option maxHeartbeats 8000000 in
set_option maxRecDepth 100000 in
theorem graftwoodlaw01_Few.calls (a0 : ByteArray) (r : ByteArray) (w : World) (h : graftwoodlaw01_Few.f a0 = some r) :
    Calls Tryd.prog 10 #[.string a0] w fun e w' => e = .returned (.string r) ∧ Drawn0 w w' := by
  have H : (if (a0.size : Int) > 400 then (if 0 ≤ 400 then (if 400 ≤ (a0.size : Int) then (some (a0.extract 0 400)) else (none)) else (none)) else (some a0)) = some r := h
  clear h
  by_cases c2 : (a0.size : Int) > 400
  · rw [if_pos c2] at H
    have c2b0 : decide (400 < (a0.size : Int)) = true := decide_eq_true c2
    have c2b1 : decide (400 < a0.size) = true := decide_eq_true (by omega)
    clear c2
    by_cases c3 : 0 ≤ 400
    · rw [if_pos c3] at H
      have c3b0 := eq_true c3
      have c3b1 : decide (0 ≤ 400) = true := decide_eq_true c3
      clear c3
      by_cases c4 : 400 ≤ (a0.size : Int)
      · rw [if_pos c4] at H
        have c4b0 := eq_true c4
        have c4b1 : decide (400 ≤ (a0.size : Int)) = true := decide_eq_true c4
        clear c4
        obtain rfl := Option.some.inj H
        go_enter Tryd.func10, Tryd.ntmps10
        go_wp2
        go_ret
        exact ⟨by first | rfl | (simp; done) | (simp [*]; done), by repeat (first | exact Drawn0.refl _ | apply Drawn0.step)⟩
      · rw [if_neg c4] at H
        exact absurd H (by simp)
    · rw [if_neg c3] at H
      exact absurd H (by simp)
  · rw [if_neg c2] at H
    have c2b0 : decide (400 < (a0.size : Int)) = false := decide_eq_false c2
    have c2b1 : decide (400 < a0.size) = false := decide_eq_false (by omega)
    clear c2
    obtain rfl := Option.some.inj H
    go_enter Tryd.func10, Tryd.ntmps10
    go_wp2
    go_ret
    exact ⟨by first | rfl | (simp; done) | (simp [*]; done), by repeat (first | exact Drawn0.refl _ | apply Drawn0.step)⟩

/-! ### HAND octet_Parts -/
def partsL (c : UInt8) : List UInt8 → List (List UInt8)
  | [] => [[]]
  | b :: l => if b = c then [] :: partsL c l else (b :: (partsL c l).headD []) :: (partsL c l).tail
theorem splitK_parts (c : UInt8) : ∀ l : List UInt8, Lib.splitK [c] 0 (l.count c) l = partsL c l
  | [] => rfl
  | b :: l => by
    have ih := splitK_parts c l
    have hix : Lib.index (b :: l) [c] = if b = c then 0 else if Lib.index l [c] == -1 then -1 else Lib.index l [c] + 1 := by
      rw [Lib.index]
      by_cases h : b = c
      · subst h; simp [List.isPrefixOf]
      · have hp : ([c] : List UInt8).isPrefixOf (b :: l) = false := by simp [List.isPrefixOf, Ne.symm h]
        rw [hp]; simp [h]
    by_cases h : b = c
    · subst h
      rw [List.count_cons_self, Lib.splitK, hix, if_pos rfl, partsL, if_pos rfl]
      simp [ih]
    · rw [List.count_cons_of_ne (by simpa using h), partsL, if_neg h, ← ih]
      rw [if_neg h] at hix
      cases hc : l.count c with
      | zero => simp [Lib.splitK]
      | succ k =>
        have hne : Lib.index l [c] ≠ -1 := by
          intro e
          have := Lib.count_miss e
          rw [Lib.count_one] at this
          omega
        have hge := Lib.index_ge l [c]
        obtain ⟨i, hi⟩ : ∃ i : Nat, Lib.index l [c] = i := ⟨(Lib.index l [c]).toNat, by omega⟩
        have hb : (Lib.index l [c] == -1) = false := beq_eq_false_iff_ne.2 hne
        rw [hb] at hix
        simp only [if_neg (show ¬ (false = true) by decide)] at hix
        rw [Lib.splitK, Lib.splitK, hix, hb, hi]
        have h2 : (((i : Int) + 1) == -1) = false := beq_eq_false_iff_ne.2 (by omega)
        rw [h2]
        have h3 : ((i : Int) + 1).toNat = i + 1 := by omega
        simp [h3]
theorem pieces_eq' (l : List ByteArray) (fl : List (List UInt8)) (h : l.map (·.data.toList) = fl) : l = fl.map fun x => ⟨x.toArray⟩ := by
  subst h
  rw [List.map_map]
  conv => lhs; rw [← List.map_id l]
  apply List.map_congr_left
  intro a _
  cases a
  simp
theorem splitB_parts (s : ByteArray) (c : UInt8) : Lib.splitB ⟨#[c]⟩ 0 (Lib.countB s ⟨#[c]⟩) s = (partsL c s.data.toList).map fun x => ⟨x.toArray⟩ := by
  apply pieces_eq'
  rw [Lib.splitB_data, ← splitK_parts]
  show Lib.splitK [c] 0 (Lib.count s.data.toList [c]) s.data.toList = _
  rw [Lib.count_one]
/-- strings.Split at a sep of one byte: the pieces, in a new block; the rest of the world is as it was. -/
theorem split_one (s : ByteArray) (c : UInt8) (w : World) (hs : s.size < 4294967281) :
    Calls Tryd.prog 27 #[.string s, .string ⟨#[c]⟩, .int .i64 0, .int .i64 (-1)] w fun e w' =>
      e = .returned (.slice (some ⟨w.heap.size, 0, none⟩) ((partsL c s.data.toList).map fun x => (⟨x.toArray⟩ : ByteArray)).length ((partsL c s.data.toList).map fun x => (⟨x.toArray⟩ : ByteArray)).length) ∧
      w' = w.alloc (.cells (((partsL c s.data.toList).map fun x => (⟨x.toArray⟩ : ByteArray)).map Value.string).toArray 9) := by
  have h1 : 1 ≤ (⟨#[c]⟩ : ByteArray).size := Nat.le_refl 1
  have hle := Lib.countB_le ⟨#[c]⟩ h1 s.size s (Nat.le_refl _)
  have hlen := Lib.splitB_all ⟨#[c]⟩ h1 0 _ s rfl
  have hc := Any.strings_genSplit_core Tryd.lays221 (by kernel_rfl) s ⟨#[c]⟩ 0 (-1) (Lib.countB s ⟨#[c]⟩ + 1) w hs h1 (Nat.zero_le _)
    (fun x cs hx => (Any.strings_Index_one { Tryd.lays221 with } x c _).mono fun e w' ⟨he, hw⟩ => ⟨by rw [he]; show _ = Ending.returned (Value.int .i64 (Lib.index x.data.toList [c])); rw [Lib.index_one], hw⟩)
    ((Any.strings_Count_one { Tryd.lays221 with } s c w).mono fun e w' ⟨he, hw⟩ => ⟨by rw [he]; show _ = Ending.returned (Value.int .i64 ((Lib.count s.data.toList [c] : Nat) : Int)); rw [Lib.count_one]; rfl, hw⟩)
    (by decide) (by decide) (by rw [if_pos (by decide)]; omega)
  rw [Nat.add_sub_cancel, hlen] at hc
  have e2 : Lib.cellsOf (Lib.splitB ⟨#[c]⟩ 0 (Lib.countB s ⟨#[c]⟩) s) (Lib.countB s ⟨#[c]⟩ + 1) = ((Lib.splitB ⟨#[c]⟩ 0 (Lib.countB s ⟨#[c]⟩) s).map Value.string).toArray := by rw [← hlen]; exact Lib.cellsOf_full _
  rw [e2, ← hlen, splitB_parts] at hc
  exact hc
set_option maxHeartbeats 400000 in
theorem strSplit_one (s : ByteArray) (c : UInt8) (P : List ByteArray) (hP : P = (partsL c s.data.toList).map fun x => (⟨x.toArray⟩ : ByteArray)) (w : World) (hs : s.size < 4294967281) :
    Calls Tryd.prog 24 #[.string s, .string ⟨#[c]⟩] w fun e w' => e = .returned (.slice (some ⟨w.heap.size, 0, none⟩) P.length P.length) ∧ w' = w.alloc (.cells (P.map Value.string).toArray 9) := by
  have h := split_one s c w hs
  rw [← hP] at h
  have H := Lib.hid h
  clear h hP
  go_enter Tryd.func24, Tryd.ntmps24
  go_wp2_with fail
  refine H.out.mono ?_
  rintro e w' ⟨rfl, rfl⟩
  go_wp2
  go_ret
  exact ⟨rfl, rfl⟩
theorem R_new_strings (w : World) (xs : List ByteArray) (base e : Nat) (hb : base ≤ w.heap.size) (hl : xs.length ≤ maxLen) :
    Kd.R Kd.string e (w.alloc (.cells (xs.map Value.string).toArray e)) base (fun _ => True) (.slice (some ⟨w.heap.size, 0, none⟩) xs.length xs.length) xs := by
  refine ⟨fun _ _ => trivial, xs.map Value.string, ⟨by simp [Kd.string, Kd.scalar], .inr ⟨w.heap.size, xs.length, (xs.map Value.string).toArray, rfl, hb, heap_alloc_new w _, Nat.le_refl _, hl, by simp [Kd.string, Kd.scalar], by simp [Kd.string, Kd.scalar, List.take_of_length_le]⟩⟩, by simp [Kd.string, Kd.scalar], fun j p hj => ?_⟩
  show ((xs.map Value.string).drop (j * 1)).take 1 = [Value.string p]
  obtain ⟨hjl, hjp⟩ := List.getElem?_eq_some_iff.1 hj
  rw [Nat.mul_one, List.drop_eq_getElem_cons (by simpa using hjl)]
  simp [hjp]
theorem partsL_length (c : UInt8) : ∀ l : List UInt8, (partsL c l).length ≤ l.length + 1 ∧ 1 ≤ (partsL c l).length
  | [] => by simp [partsL]
  | b :: l => by
    have := partsL_length c l
    rw [partsL]
    split <;> simp <;> omega
def octet_Parts.f (a0 : ByteArray) (a1 : Int) : Option (List ByteArray) := if 0 ≤ a1 then if a1 < 256 then if a0.size ≤ 1000000000 then some ((partsL a1.toNat.toUInt8 a0.data.toList).map fun x => ⟨x.toArray⟩) else none else none else none
set_option maxRecDepth 100000 in
set_option maxHeartbeats 400000 in
theorem octet_Parts.calls (a0 : ByteArray) (a1 : Int) (r : List ByteArray) (w : World) (h : octet_Parts.f a0 a1 = some r) :
    Calls Tryd.prog 11 #[.string a0, .int .u8 a1] w fun e w' => ∃ v0_ : Value, e = .returned (v0_) ∧ Kd.R Kd.string 9 w' w.heap.size (fun _ => True) v0_ r ∧ Below w.heap.size w w' := by
  unfold octet_Parts.f at h
  by_cases h0 : 0 ≤ a1
  case neg => rw [if_neg h0] at h; cases h
  by_cases h1 : a1 < 256
  case neg => rw [if_pos h0, if_neg h1] at h; cases h
  by_cases h2 : a0.size ≤ 1000000000
  case neg => rw [if_pos h0, if_pos h1, if_neg h2] at h; cases h
  rw [if_pos h0, if_pos h1, if_pos h2] at h
  obtain rfl := Option.some.inj h
  clear h
  obtain ⟨c, hc⟩ : ∃ c, c = a1.toNat.toUInt8 := ⟨_, rfl⟩
  rw [← hc]
  have hlen := (partsL_length c a0.data.toList).1
  have hlen2 : a0.data.toList.length = a0.size := by simp
  obtain ⟨P, hP⟩ : ∃ P, P = (partsL c a0.data.toList).map fun x => (⟨x.toArray⟩ : ByteArray) := ⟨_, rfl⟩
  have hPl : P.length ≤ maxLen := by rw [hP, List.length_map]; unfold maxLen; omega
  have hsp := fun W => strSplit_one a0 c P hP W (by omega)
  rw [← hP]
  have Hc := Lib.hid hc
  have Hsp := Lib.hid hsp
  have HPl := Lib.hid hPl
  clear hc hsp hP hlen hlen2 hPl
  have hrd : ReadsInt (w.alloc (.cells #[.int .u8 a1] 5)) .u8 (some ⟨w.heap.size, 0, none⟩) 1 [a1] :=
    ⟨rfl, by decide, fun _ => ⟨_, rfl, fun j hj => by
      obtain rfl : j = 0 := by omega
      show (w.alloc (.cells #[.int .u8 a1] 5)).cell? ((⟨w.heap.size, 0, none⟩ : Addr).add 0) = _
      rw [add_plain, World.cell?_alloc_at _ _ _ _ rfl]
      rfl⟩⟩
  have hcv : (convert 25 9 (.slice (some ⟨w.heap.size, 0, none⟩) 1 1)).run Tryd.prog (w.alloc (.cells #[.int .u8 a1] 5)) = .ok (.string ⟨#[c]⟩) (w.alloc (.cells #[.int .u8 a1] 5)) := by
    rw [string_of_reads Tryd.underlying25 Tryd.underlying5 Tryd.underlying9 hrd, Hc.out]
    rfl
  clear hrd
  go_enter Tryd.func11, Tryd.ntmps11
  go_wp2_with fail
  refine (Hsp.out _).mono ?_
  rintro e w' ⟨rfl, rfl⟩
  go_wp2
  go_ret
  have hR := R_new_strings (w.alloc (.cells #[.int .u8 a1] 5)) P w.heap.size 9 (below_size (below_alloc (Below.refl _ _) _)) HPl.out
  have hz : (w.alloc (.cells #[.int .u8 a1] 5)).heap.size = w.heap.size + 1 := by show (w.heap.push _).size = _; exact Array.size_push _
  rw [hz] at hR
  exact ⟨.slice (some ⟨w.heap.size + 1, 0, none⟩) P.length P.length, rfl, hR, below_alloc (below_alloc (Below.refl _ _) _) _⟩

/-! ### cmp_isNaN_string: function 28 -/
def cmp_isNaN_string.f (a0 : ByteArray) : Option (Bool) := some (a0.toList != a0.toList)
set_option maxHeartbeats 8000000 in
set_option maxRecDepth 100000 in
theorem cmp_isNaN_string.calls (a0 : ByteArray) (r : Bool) (w : World) (h : cmp_isNaN_string.f a0 = some r) :
    Calls Tryd.prog 28 #[.string a0] w fun e w' => e = .returned (.bool r) ∧ Drawn0 w w' := by
  have H : (some (a0.toList != a0.toList)) = some r := h
  clear h
  obtain rfl := Option.some.inj H
  go_enter Tryd.func28, Tryd.ntmps28
  go_wp2
  go_ret
  exact ⟨by first | rfl | (simp; done) | (simp [*]; done), by repeat (first | exact Drawn0.refl _ | apply Drawn0.step)⟩

/-! ### cmp_Compare_string: function 25 -/
def cmp_Compare_string.f (a0 : ByteArray) (a1 : ByteArray) : Option (Int) := (cmp_isNaN_string.f a0).bind fun t101 => ((cmp_isNaN_string.f a1).bind fun t102 => (if t101 = true then (if t102 = true then (some 0) else (some (-1))) else (if t102 = true then (some 1) else (if (Op.bytesLess a0.toList a1.toList) = true then (some (-1)) else (if (Op.bytesLess a1.toList a0.toList) = true then (some 1) else (some 0))))))
set_option maxHeartbeats 8000000 in
set_option maxRecDepth 100000 in
theorem cmp_Compare_string.calls (a0 : ByteArray) (a1 : ByteArray) (r : Int) (w : World) (h : cmp_Compare_string.f a0 a1 = some r) :
    Calls Tryd.prog 25 #[.string a0, .string a1] w fun e w' => e = .returned (.int .i64 r) ∧ Drawn0 w w' := by
  have H : ((cmp_isNaN_string.f a0).bind fun t101 => ((cmp_isNaN_string.f a1).bind fun t102 => (if t101 = true then (if t102 = true then (some 0) else (some (-1))) else (if t102 = true then (some 1) else (if (Op.bytesLess a0.toList a1.toList) = true then (some (-1)) else (if (Op.bytesLess a1.toList a0.toList) = true then (some 1) else (some 0))))))) = some r := h
  clear h
  replace H := Option.bind_eq_some_iff.mp H
  obtain ⟨t101, A30, H⟩ := H
  replace H : ((cmp_isNaN_string.f a1).bind fun t102 => (if t101 = true then (if t102 = true then (some 0) else (some (-1))) else (if t102 = true then (some 1) else (if (Op.bytesLess a0.toList a1.toList) = true then (some (-1)) else (if (Op.bytesLess a1.toList a0.toList) = true then (some 1) else (some 0)))))) = some r := H
  have A3 := Aside0.mk A30
  clear A30
  replace H := Option.bind_eq_some_iff.mp H
  obtain ⟨t102, A40, H⟩ := H
  replace H : (if t101 = true then (if t102 = true then (some 0) else (some (-1))) else (if t102 = true then (some 1) else (if (Op.bytesLess a0.toList a1.toList) = true then (some (-1)) else (if (Op.bytesLess a1.toList a0.toList) = true then (some 1) else (some 0))))) = some r := H
  have A4 := Aside0.mk A40
  clear A40
  by_cases c5 : t101 = true
  · subst c5
    have H1 : (if t102 = true then (some 0) else (some (-1))) = some r := by rw [if_pos rfl] at H; exact H
    clear H
    have H := H1
    clear H1
    by_cases c6 : t102 = true
    · subst c6
      have H1 : (some 0) = some r := by rw [if_pos rfl] at H; exact H
      clear H
      have H := H1
      clear H1
      obtain rfl := Option.some.inj H
      go_enter Tryd.func25, Tryd.ntmps25
      go_wp2_with (first | ((with_reducible refine gate_callee (f := 28) rfl ?_); refine goesL_ (some 8) rfl rfl Tryd.func28 (by kernel_rfl) rfl #[.string a0] rfl (by (try simp only [List.map_toArray, List.map_cons, List.map_nil]); first | done | rfl | (simp only [List.length_drop, List.length_take]; rfl)) ?_; (with_reducible refine (cmp_isNaN_string.calls a0 true _ A3.out).mono ?_); rintro e w' ⟨rfl, ⟨nd, rfl⟩⟩; refine ⟨_, rfl, ?_⟩) | ((with_reducible refine gate_callee (f := 28) rfl ?_); refine goesL_ (some 10) rfl rfl Tryd.func28 (by kernel_rfl) rfl #[.string a1] rfl (by (try simp only [List.map_toArray, List.map_cons, List.map_nil]); first | done | rfl | (simp only [List.length_drop, List.length_take]; rfl)) ?_; (with_reducible refine (cmp_isNaN_string.calls a1 true _ A4.out).mono ?_); rintro e w' ⟨rfl, ⟨nd, rfl⟩⟩; refine ⟨_, rfl, ?_⟩))
      go_ret
      exact ⟨by first | rfl | (simp; done) | (simp [*]; done), by repeat (first | exact Drawn0.refl _ | apply Drawn0.step)⟩
    · replace c6 := Bool.eq_false_iff.mpr c6
      subst c6
      have H1 : (some (-1)) = some r := by rw [if_neg (show ¬ (false = true) by decide)] at H; exact H
      clear H
      have H := H1
      clear H1
      obtain rfl := Option.some.inj H
      go_enter Tryd.func25, Tryd.ntmps25
      go_wp2_with (first | ((with_reducible refine gate_callee (f := 28) rfl ?_); refine goesL_ (some 8) rfl rfl Tryd.func28 (by kernel_rfl) rfl #[.string a0] rfl (by (try simp only [List.map_toArray, List.map_cons, List.map_nil]); first | done | rfl | (simp only [List.length_drop, List.length_take]; rfl)) ?_; (with_reducible refine (cmp_isNaN_string.calls a0 true _ A3.out).mono ?_); rintro e w' ⟨rfl, ⟨nd, rfl⟩⟩; refine ⟨_, rfl, ?_⟩) | ((with_reducible refine gate_callee (f := 28) rfl ?_); refine goesL_ (some 10) rfl rfl Tryd.func28 (by kernel_rfl) rfl #[.string a1] rfl (by (try simp only [List.map_toArray, List.map_cons, List.map_nil]); first | done | rfl | (simp only [List.length_drop, List.length_take]; rfl)) ?_; (with_reducible refine (cmp_isNaN_string.calls a1 false _ A4.out).mono ?_); rintro e w' ⟨rfl, ⟨nd, rfl⟩⟩; refine ⟨_, rfl, ?_⟩))
      go_ret
      exact ⟨by first | rfl | (simp; done) | (simp [*]; done), by repeat (first | exact Drawn0.refl _ | apply Drawn0.step)⟩
  · replace c5 := Bool.eq_false_iff.mpr c5
    subst c5
    have H1 : (if t102 = true then (some 1) else (if (Op.bytesLess a0.toList a1.toList) = true then (some (-1)) else (if (Op.bytesLess a1.toList a0.toList) = true then (some 1) else (some 0)))) = some r := by rw [if_neg (show ¬ (false = true) by decide)] at H; exact H
    clear H
    have H := H1
    clear H1
    by_cases c7 : t102 = true
    · subst c7
      have H1 : (some 1) = some r := by rw [if_pos rfl] at H; exact H
      clear H
      have H := H1
      clear H1
      obtain rfl := Option.some.inj H
      go_enter Tryd.func25, Tryd.ntmps25
      go_wp2_with (first | ((with_reducible refine gate_callee (f := 28) rfl ?_); refine goesL_ (some 8) rfl rfl Tryd.func28 (by kernel_rfl) rfl #[.string a0] rfl (by (try simp only [List.map_toArray, List.map_cons, List.map_nil]); first | done | rfl | (simp only [List.length_drop, List.length_take]; rfl)) ?_; (with_reducible refine (cmp_isNaN_string.calls a0 false _ A3.out).mono ?_); rintro e w' ⟨rfl, ⟨nd, rfl⟩⟩; refine ⟨_, rfl, ?_⟩) | ((with_reducible refine gate_callee (f := 28) rfl ?_); refine goesL_ (some 10) rfl rfl Tryd.func28 (by kernel_rfl) rfl #[.string a1] rfl (by (try simp only [List.map_toArray, List.map_cons, List.map_nil]); first | done | rfl | (simp only [List.length_drop, List.length_take]; rfl)) ?_; (with_reducible refine (cmp_isNaN_string.calls a1 true _ A4.out).mono ?_); rintro e w' ⟨rfl, ⟨nd, rfl⟩⟩; refine ⟨_, rfl, ?_⟩))
      go_ret
      exact ⟨by first | rfl | (simp; done) | (simp [*]; done), by repeat (first | exact Drawn0.refl _ | apply Drawn0.step)⟩
    · replace c7 := Bool.eq_false_iff.mpr c7
      subst c7
      have H1 : (if (Op.bytesLess a0.toList a1.toList) = true then (some (-1)) else (if (Op.bytesLess a1.toList a0.toList) = true then (some 1) else (some 0))) = some r := by rw [if_neg (show ¬ (false = true) by decide)] at H; exact H
      clear H
      have H := H1
      clear H1
      by_cases c8 : (Op.bytesLess a0.toList a1.toList) = true
      · rw [if_pos c8] at H
        have c8b0 : (Op.bytesLess a0.toList a1.toList) = true := c8
        clear c8
        obtain rfl := Option.some.inj H
        go_enter Tryd.func25, Tryd.ntmps25
        go_wp2_with (first | ((with_reducible refine gate_callee (f := 28) rfl ?_); refine goesL_ (some 8) rfl rfl Tryd.func28 (by kernel_rfl) rfl #[.string a0] rfl (by (try simp only [List.map_toArray, List.map_cons, List.map_nil]); first | done | rfl | (simp only [List.length_drop, List.length_take]; rfl)) ?_; (with_reducible refine (cmp_isNaN_string.calls a0 false _ A3.out).mono ?_); rintro e w' ⟨rfl, ⟨nd, rfl⟩⟩; refine ⟨_, rfl, ?_⟩) | ((with_reducible refine gate_callee (f := 28) rfl ?_); refine goesL_ (some 10) rfl rfl Tryd.func28 (by kernel_rfl) rfl #[.string a1] rfl (by (try simp only [List.map_toArray, List.map_cons, List.map_nil]); first | done | rfl | (simp only [List.length_drop, List.length_take]; rfl)) ?_; (with_reducible refine (cmp_isNaN_string.calls a1 false _ A4.out).mono ?_); rintro e w' ⟨rfl, ⟨nd, rfl⟩⟩; refine ⟨_, rfl, ?_⟩))
        go_ret
        exact ⟨by first | rfl | (simp; done) | (simp [*]; done), by repeat (first | exact Drawn0.refl _ | apply Drawn0.step)⟩
      · rw [if_neg c8] at H
        have c8b0 : (Op.bytesLess a0.toList a1.toList) = false := by simpa using c8
        clear c8
        by_cases c9 : (Op.bytesLess a1.toList a0.toList) = true
        · rw [if_pos c9] at H
          have c9b0 : (Op.bytesLess a1.toList a0.toList) = true := c9
          clear c9
          obtain rfl := Option.some.inj H
          go_enter Tryd.func25, Tryd.ntmps25
          go_wp2_with (first | ((with_reducible refine gate_callee (f := 28) rfl ?_); refine goesL_ (some 8) rfl rfl Tryd.func28 (by kernel_rfl) rfl #[.string a0] rfl (by (try simp only [List.map_toArray, List.map_cons, List.map_nil]); first | done | rfl | (simp only [List.length_drop, List.length_take]; rfl)) ?_; (with_reducible refine (cmp_isNaN_string.calls a0 false _ A3.out).mono ?_); rintro e w' ⟨rfl, ⟨nd, rfl⟩⟩; refine ⟨_, rfl, ?_⟩) | ((with_reducible refine gate_callee (f := 28) rfl ?_); refine goesL_ (some 10) rfl rfl Tryd.func28 (by kernel_rfl) rfl #[.string a1] rfl (by (try simp only [List.map_toArray, List.map_cons, List.map_nil]); first | done | rfl | (simp only [List.length_drop, List.length_take]; rfl)) ?_; (with_reducible refine (cmp_isNaN_string.calls a1 false _ A4.out).mono ?_); rintro e w' ⟨rfl, ⟨nd, rfl⟩⟩; refine ⟨_, rfl, ?_⟩))
          go_ret
          exact ⟨by first | rfl | (simp; done) | (simp [*]; done), by repeat (first | exact Drawn0.refl _ | apply Drawn0.step)⟩
        · rw [if_neg c9] at H
          have c9b0 : (Op.bytesLess a1.toList a0.toList) = false := by simpa using c9
          clear c9
          obtain rfl := Option.some.inj H
          go_enter Tryd.func25, Tryd.ntmps25
          go_wp2_with (first | ((with_reducible refine gate_callee (f := 28) rfl ?_); refine goesL_ (some 8) rfl rfl Tryd.func28 (by kernel_rfl) rfl #[.string a0] rfl (by (try simp only [List.map_toArray, List.map_cons, List.map_nil]); first | done | rfl | (simp only [List.length_drop, List.length_take]; rfl)) ?_; (with_reducible refine (cmp_isNaN_string.calls a0 false _ A3.out).mono ?_); rintro e w' ⟨rfl, ⟨nd, rfl⟩⟩; refine ⟨_, rfl, ?_⟩) | ((with_reducible refine gate_callee (f := 28) rfl ?_); refine goesL_ (some 10) rfl rfl Tryd.func28 (by kernel_rfl) rfl #[.string a1] rfl (by (try simp only [List.map_toArray, List.map_cons, List.map_nil]); first | done | rfl | (simp only [List.length_drop, List.length_take]; rfl)) ?_; (with_reducible refine (cmp_isNaN_string.calls a1 false _ A4.out).mono ?_); rintro e w' ⟨rfl, ⟨nd, rfl⟩⟩; refine ⟨_, rfl, ?_⟩))
          go_ret
          exact ⟨by first | rfl | (simp; done) | (simp [*]; done), by repeat (first | exact Drawn0.refl _ | apply Drawn0.step)⟩

/-! ### octet_Cmp: function 15 -/
def octet_Cmp.f (a0 : ByteArray) (a1 : ByteArray) : Option (Int) := (cmp_Compare_string.f a0 a1).bind fun t103 => (some t103)
set_option maxHeartbeats 8000000 in
set_option maxRecDepth 100000 in
theorem octet_Cmp.calls (a0 : ByteArray) (a1 : ByteArray) (r : Int) (w : World) (h : octet_Cmp.f a0 a1 = some r) :
    Calls Tryd.prog 15 #[.string a0, .string a1] w fun e w' => e = .returned (.int .i64 r) ∧ Drawn0 w w' := by
  have H : ((cmp_Compare_string.f a0 a1).bind fun t103 => (some t103)) = some r := h
  clear h
  replace H := Option.bind_eq_some_iff.mp H
  obtain ⟨t103, A30, H⟩ := H
  replace H : (some t103) = some r := H
  have A3 := Aside0.mk A30
  clear A30
  obtain rfl := Option.some.inj H
  go_enter Tryd.func15, Tryd.ntmps15
  go_wp2_with (first | ((with_reducible refine gate_callee (f := 25) rfl ?_); refine goesL_ (some 7) rfl rfl Tryd.func25 (by kernel_rfl) rfl #[.string a0, .string a1] rfl (by (try simp only [List.map_toArray, List.map_cons, List.map_nil]); first | done | rfl | (simp only [List.length_drop, List.length_take]; rfl)) ?_; (with_reducible refine (cmp_Compare_string.calls a0 a1 t103 _ A3.out).mono ?_); rintro e w' ⟨rfl, ⟨nd, rfl⟩⟩; refine ⟨_, rfl, ?_⟩))
  go_ret
  exact ⟨by first | rfl | (simp; done) | (simp [*]; done), by repeat (first | exact Drawn0.refl _ | apply Drawn0.step)⟩

/-! ### HAND octet_Class -/
def clsOf (c : Int) : Int := if 48 ≤ c ∧ c ≤ 57 then 1 else if (65 ≤ c ∧ c ≤ 90) ∨ (97 ≤ c ∧ c ≤ 122) then 2 else if c = 45 ∨ c = 46 ∨ c = 95 ∨ c = 126 then 3 else if c = 47 then 4 else if c = 32 ∨ c = 9 then 5 else if c = 10 then 6 else if c = 34 then 7 else if c = 40 then 8 else if c = 41 then 9 else 0
def clsStrs : List ByteArray := [⟨#[]⟩, ⟨#[48, 49, 50, 51, 52, 53, 54, 55, 56, 57]⟩, ⟨#[97, 98, 99, 100, 101, 102, 103, 104, 105, 106, 107, 108, 109, 110, 111, 112, 113, 114, 115, 116, 117, 118, 119, 120, 121, 122, 65, 66, 67, 68, 69, 70, 71, 72, 73, 74, 75, 76, 77, 78, 79, 80, 81, 82, 83, 84, 85, 86, 87, 88, 89, 90]⟩, ⟨#[45, 46, 95, 126]⟩, ⟨#[47]⟩, ⟨#[32, 9]⟩, ⟨#[10]⟩, ⟨#[34]⟩, ⟨#[40]⟩, ⟨#[41]⟩]
def clsS (k : Nat) : ByteArray := clsStrs.getD k ⟨#[]⟩
def cellsI (l : List Int) : Array Value := (l.map (Value.int .i64)).toArray
def clsTab : List Int := (List.range 256).map fun (c : Nat) => clsOf c
def clsT0 : List Int := List.replicate 256 0
def tabIn (t : List Int) (v : Int) : List UInt8 → List Int
  | [] => t
  | b :: l => tabIn (t.set b.toNat v) v l
def tabO : Nat → List Int
  | 0 => clsT0
  | k + 1 => tabIn (tabO k) k (clsS k).data.toList
theorem tabIn_length (v : Int) : ∀ (l : List UInt8) (t : List Int), (tabIn t v l).length = t.length
  | [], _ => rfl
  | b :: l, t => by rw [tabIn, tabIn_length v l]; simp
theorem tabIn_snoc (v : Int) (b : UInt8) : ∀ (l : List UInt8) (t : List Int), tabIn t v (l ++ [b]) = (tabIn t v l).set b.toNat v
  | [], _ => rfl
  | c :: l, t => by rw [List.cons_append, tabIn, tabIn, tabIn_snoc v b l]
theorem tabO_length : ∀ k, (tabO k).length = 256
  | 0 => List.length_replicate
  | k + 1 => by rw [tabO, tabIn_length, tabO_length k]
theorem tabO_ten : tabO 10 = clsTab := by decide +kernel
theorem cellsI_size (l : List Int) : (cellsI l).size = l.length := by simp [cellsI]
theorem cellsI_set (l : List Int) (i : Nat) (v : Int) : (cellsI l).setIfInBounds i (.int .i64 v) = cellsI (l.set i v) := by
  unfold cellsI
  apply Array.ext'
  simp [List.map_set]
theorem cellsI_get (l : List Int) (i : Nat) (h : i < l.length) : (cellsI l)[i]? = some (.int .i64 l[i]) := by simp [cellsI, h]
theorem clsS_size (k : Nat) : (clsS k).size ≤ 62 := by
  unfold clsS
  rw [List.getD_eq_getElem?_getD]
  by_cases h : k < 10
  · obtain rfl | rfl | rfl | rfl | rfl | rfl | rfl | rfl | rfl | rfl : k = 0 ∨ k = 1 ∨ k = 2 ∨ k = 3 ∨ k = 4 ∨ k = 5 ∨ k = 6 ∨ k = 7 ∨ k = 8 ∨ k = 9 := by omega
    all_goals decide
  · rw [List.getElem?_eq_none (by simp [clsStrs]; omega)]
    decide
set_option maxRecDepth 100000 in
set_option maxHeartbeats 400000 in
theorem classes_calls (w : World) : Calls Tryd.prog 26 #[] w fun e w' => e = .returned (.agg (cellsI clsTab)) ∧ Below w.heap.size w w' := by
  have hz : ∀ w, (zeroValue 42).run Tryd.prog w = .ok (.agg (cellsI clsT0)) w := fun _ => by kernel_rfl
  have hidx : ∀ (W : World) (k : Nat), k < 10 → (Instr.index 47 (.agg #[.string ⟨#[]⟩, .string ⟨#[48, 49, 50, 51, 52, 53, 54, 55, 56, 57]⟩, .string ⟨#[97, 98, 99, 100, 101, 102, 103, 104, 105, 106, 107, 108, 109, 110, 111, 112, 113, 114, 115, 116, 117, 118, 119, 120, 121, 122, 65, 66, 67, 68, 69, 70, 71, 72, 73, 74, 75, 76, 77, 78, 79, 80, 81, 82, 83, 84, 85, 86, 87, 88, 89, 90]⟩, .string ⟨#[45, 46, 95, 126]⟩, .string ⟨#[47]⟩, .string ⟨#[32, 9]⟩, .string ⟨#[10]⟩, .string ⟨#[34]⟩, .string ⟨#[40]⟩, .string ⟨#[41]⟩]) (.int .i64 k)).run Tryd.prog W = .ok (.string (clsS k)) W := by
    intro W k hk
    obtain rfl | rfl | rfl | rfl | rfl | rfl | rfl | rfl | rfl | rfl : k = 0 ∨ k = 1 ∨ k = 2 ∨ k = 3 ∨ k = 4 ∨ k = 5 ∨ k = 6 ∨ k = 7 ∨ k = 8 ∨ k = 9 := by omega
    all_goals kernel_rfl
  have Hidx := Lib.hid hidx
  clear hidx
  go_enter Tryd.func26, Tryd.ntmps26
  go_wp2
  go_loopw [5] (fun v5 wr => ∃ k : Nat, k ≤ 10 ∧ v5 = .int .i64 k ∧ wr = w.alloc (.cells (cellsI (tabO k)) 42)) (fun v5 _ => 10 - (intOf v5).toNat)
  case atStart => exact ⟨0, by omega, rfl, rfl⟩
  case round =>
    obtain ⟨k, hk, rfl, rfl⟩ := hrel
    by_cases hlt : k < 10
    · have hi := fun W => Hidx.out W k hlt
      have hb : decide ((k : Int) < 10) = true := decide_eq_true (by omega)
      obtain ⟨s, hs⟩ : ∃ s, s = clsS k := ⟨_, rfl⟩
      rw [← hs] at hi
      obtain ⟨T, hT⟩ : ∃ T, T = tabO k := ⟨_, rfl⟩
      have hTl : T.length = 256 := by rw [hT]; exact tabO_length k
      have HT := Lib.hid hT
      have Hs := Lib.hid hs
      have HTl := Lib.hid hTl
      have hsz : s.size ≤ 62 := by rw [hs]; exact clsS_size k
      rw [← hT]
      clear hT hs hTl
      go_wp2
      go_loopw [11] (fun v11 wr => ∃ j : Nat, j ≤ s.size ∧ v11 = .int .i64 j ∧ wr = w.alloc (.cells (cellsI (tabIn T k (s.data.toList.take j))) 42)) (fun v11 _ => s.size - (intOf v11).toNat)
      case atStart => exact ⟨0, by omega, rfl, rfl⟩
      case round =>
        obtain ⟨j, hj, rfl, rfl⟩ := hrel
        by_cases hjl : j < s.size
        · have hb2 : decide ((j : Int) < (s.size : Int)) = true := decide_eq_true (by omega)
          have hb3 := s[j].toNat_lt
          have hl : (tabIn T k (s.data.toList.take j)).length = 256 := by rw [tabIn_length]; exact HTl.out
          have hc := cellsI_get (tabIn T k (s.data.toList.take j)) s[j].toNat (by omega)
          have hsz2 := cellsI_size (tabIn T k (s.data.toList.take j))
          rw [hl] at hsz2
          have hfin : (tabIn T k (s.data.toList.take j)).set s[j].toNat k = tabIn T k (s.data.toList.take (j + 1)) := by
            rw [List.take_succ_eq_append_getElem (by simpa using hjl), tabIn_snoc]; rfl
          have Hfin := Lib.hid hfin
          clear hfin
          go_wp2
          refine ⟨⟨j + 1, by omega, by go_num, ?_⟩, by simp [intOf]; omega⟩
          rw [cellsI_set, Hfin.out]
        · have hje : j = s.size := by omega
          have hb2 : decide ((j : Int) < (s.size : Int)) = false := decide_eq_false (by omega)
          have hfin : tabIn T k (s.data.toList.take j) = tabO (k + 1) := by
            rw [tabO, ← HT.out, ← Hs.out, hje, List.take_of_length_le (by simp)]
          have Hfin := Lib.hid hfin
          clear hfin hje
          go_wp2
          refine ⟨⟨k + 1, by omega, by go_num, ?_⟩, by simp [intOf]; omega⟩
          rw [Hfin.out]
    · obtain rfl : k = 10 := by omega
      have hone : (cellsI (tabO 10)).all (·.oneCell') = true := by simp [cellsI, Value.oneCell']
      have hi : (Tryd.prog.info? 42).map (·.size) = some (cellsI (tabO 10)).size := by rw [cellsI_size, tabO_length]; kernel_rfl
      obtain ⟨c, hc⟩ : ∃ c, c = cellsI (tabO 10) := ⟨_, rfl⟩
      rw [← hc] at hone hi ⊢
      have Hc := Lib.hid hc
      have Hone := Lib.hid hone
      have Hi := Lib.hid hi
      clear hc hone hi
      go_wp2
      refine wp_load_row 42 (.tmp 0) rfl w.heap.size rfl 42 c (0, 0) _ (heap_alloc_last w _) Tryd.underlying42 rfl Hi.out ?_
      have hst2 := run_storeCells_new (P := Tryd.prog) w 42 c c Hi.out rfl Hone.out
      have hcs : c.size = 256 := by rw [Hc.out, cellsI_size, tabO_length]
      go_wp2
      refine bodyPost_ret (v := .agg c) ?_ rfl ⟨?_, (Below.refl _ _).alloc (Nat.le_refl _) _⟩
      · exact results_cell_row (p := 0) (ty := 42) Tryd.results26 _ _ w.heap.size 42 c (0, 0) _ rfl (heap_alloc_last w _) Tryd.underlying42 rfl Hi.out
      · rw [Hc.out, tabO_ten]
theorem cellsI_at (l : List Int) (W : World) (c : Int) (h0 : 0 ≤ c) (h1 : c < 256) (hl : l.length = 256) : (Instr.index 42 (.agg (cellsI l)) (.int .u8 c)).run Tryd.prog W = .ok (.int .i64 (l.getD c.toNat 0)) W := by
  obtain ⟨n, rfl⟩ := Int.eq_ofNat_of_zero_le h0
  have hg := cellsI_get l n (by omega)
  have hn : n < 256 := by omega
  unfold Instr.index
  simp [go_sem, hl, hg, hn]
theorem clsTab_at (c : Int) (h0 : 0 ≤ c) (h1 : c < 256) : clsTab.getD c.toNat 0 = clsOf c := by
  obtain ⟨n, rfl⟩ := Int.eq_ofNat_of_zero_le h0
  unfold clsTab
  rw [List.getD_eq_getElem?_getD, List.getElem?_map, Int.toNat_natCast, List.getElem?_range (by omega)]
  rfl
theorem clsTab_length : clsTab.length = 256 := by rw [← tabO_ten, tabO_length]
def octet_Class.f (a0 : Int) : Option Int := if 0 ≤ a0 then if a0 < 256 then some (clsOf a0) else none else none
theorem octet_Class.calls (a0 : Int) (r : Int) (w : World) (h : octet_Class.f a0 = some r) :
    Calls Tryd.prog 19 #[.int .u8 a0] w fun e w' => e = .returned (.int .i64 r) ∧ Below w.heap.size w w' := by
  unfold octet_Class.f at h
  by_cases h0 : 0 ≤ a0
  · by_cases h1 : a0 < 256
    · rw [if_pos h0, if_pos h1] at h
      obtain rfl := Option.some.inj h
      have hat := fun W => cellsI_at clsTab W a0 h0 h1 clsTab_length
      simp only [clsTab_at a0 h0 h1] at hat
      go_enter Tryd.func19, Tryd.ntmps19
      go_wp2_with fail
      refine (classes_calls w).mono ?_
      rintro e w' ⟨rfl, hb⟩
      go_wp2
      go_ret
      exact ⟨rfl, hb⟩
    · rw [if_pos h0, if_neg h1] at h; cases h
  · rw [if_neg h0] at h; cases h

/-! ### graftwoodlaw01_awake: function 12 -/
def graftwoodlaw01_awake.f  : Option (Bool) := (octet_Parts.f (⟨#[97, 47, 47, 98]⟩ : ByteArray) 47).bind fun t104 => ((octet_Class.f 97).bind fun t107 => (if t107 = 2 then ((octet_Cmp.f (⟨#[97, 98]⟩ : ByteArray) (⟨#[97, 98, 99]⟩ : ByteArray)).bind fun t108 => (if t108 = (-1) then (if (t104.length : Int) = 3 then (if 0 < (t104.length : Int) then (if (rdOf ByteArray.empty t104 0).toList = ([97] : List UInt8) then (if 1 < (t104.length : Int) then (if (rdOf ByteArray.empty t104 1).toList = ([] : List UInt8) then (if 2 < (t104.length : Int) then (if (rdOf ByteArray.empty t104 2).toList = ([98] : List UInt8) then (some true) else (some false)) else (none)) else (some false)) else (none)) else (some false)) else (none)) else (some false)) else (some false))) else (some false)))
set_option maxHeartbeats 8000000 in
set_option maxRecDepth 100000 in
theorem graftwoodlaw01_awake.calls  (r : Bool) (w : World) (h : graftwoodlaw01_awake.f  = some r) :
    Calls Tryd.prog 12 #[] w fun e w' => e = .returned (.bool r) ∧ Below w.heap.size w w' := by
  have HB := Aside0.mk (Below.refl w.heap.size w)
  have H : ((octet_Parts.f (⟨#[97, 47, 47, 98]⟩ : ByteArray) 47).bind fun t104 => ((octet_Class.f 97).bind fun t107 => (if t107 = 2 then ((octet_Cmp.f (⟨#[97, 98]⟩ : ByteArray) (⟨#[97, 98, 99]⟩ : ByteArray)).bind fun t108 => (if t108 = (-1) then (if (t104.length : Int) = 3 then (if 0 < (t104.length : Int) then (if (rdOf ByteArray.empty t104 0).toList = ([97] : List UInt8) then (if 1 < (t104.length : Int) then (if (rdOf ByteArray.empty t104 1).toList = ([] : List UInt8) then (if 2 < (t104.length : Int) then (if (rdOf ByteArray.empty t104 2).toList = ([98] : List UInt8) then (some true) else (some false)) else (none)) else (some false)) else (none)) else (some false)) else (none)) else (some false)) else (some false))) else (some false)))) = some r := h
  clear h
  replace H := Option.bind_eq_some_iff.mp H
  obtain ⟨t104, A10, H⟩ := H
  replace H : ((octet_Class.f 97).bind fun t107 => (if t107 = 2 then ((octet_Cmp.f (⟨#[97, 98]⟩ : ByteArray) (⟨#[97, 98, 99]⟩ : ByteArray)).bind fun t108 => (if t108 = (-1) then (if (t104.length : Int) = 3 then (if 0 < (t104.length : Int) then (if (rdOf ByteArray.empty t104 0).toList = ([97] : List UInt8) then (if 1 < (t104.length : Int) then (if (rdOf ByteArray.empty t104 1).toList = ([] : List UInt8) then (if 2 < (t104.length : Int) then (if (rdOf ByteArray.empty t104 2).toList = ([98] : List UInt8) then (some true) else (some false)) else (none)) else (some false)) else (none)) else (some false)) else (none)) else (some false)) else (some false))) else (some false))) = some r := H
  have A1 := Aside0.mk A10
  clear A10
  replace H := Option.bind_eq_some_iff.mp H
  obtain ⟨t107, A20, H⟩ := H
  replace H : (if t107 = 2 then ((octet_Cmp.f (⟨#[97, 98]⟩ : ByteArray) (⟨#[97, 98, 99]⟩ : ByteArray)).bind fun t108 => (if t108 = (-1) then (if (t104.length : Int) = 3 then (if 0 < (t104.length : Int) then (if (rdOf ByteArray.empty t104 0).toList = ([97] : List UInt8) then (if 1 < (t104.length : Int) then (if (rdOf ByteArray.empty t104 1).toList = ([] : List UInt8) then (if 2 < (t104.length : Int) then (if (rdOf ByteArray.empty t104 2).toList = ([98] : List UInt8) then (some true) else (some false)) else (none)) else (some false)) else (none)) else (some false)) else (none)) else (some false)) else (some false))) else (some false)) = some r := H
  have A2 := Aside0.mk A20
  clear A20
  by_cases c3 : t107 = 2
  · rw [if_pos c3] at H
    have c3b0 : (t107 == 2) = true := beq_iff_eq.mpr c3
    have c3b1 : (t107 != 2) = false := bne_eq_false_iff_eq.mpr c3
    clear c3
    replace H := Option.bind_eq_some_iff.mp H
    obtain ⟨t108, A40, H⟩ := H
    replace H : (if t108 = (-1) then (if (t104.length : Int) = 3 then (if 0 < (t104.length : Int) then (if (rdOf ByteArray.empty t104 0).toList = ([97] : List UInt8) then (if 1 < (t104.length : Int) then (if (rdOf ByteArray.empty t104 1).toList = ([] : List UInt8) then (if 2 < (t104.length : Int) then (if (rdOf ByteArray.empty t104 2).toList = ([98] : List UInt8) then (some true) else (some false)) else (none)) else (some false)) else (none)) else (some false)) else (none)) else (some false)) else (some false)) = some r := H
    have A4 := Aside0.mk A40
    clear A40
    by_cases c5 : t108 = (-1)
    · rw [if_pos c5] at H
      have c5b0 : (t108 == (-1)) = true := beq_iff_eq.mpr c5
      have c5b1 : (t108 != (-1)) = false := bne_eq_false_iff_eq.mpr c5
      clear c5
      by_cases c6 : (t104.length : Int) = 3
      · rw [if_pos c6] at H
        have c6b0 : ((t104.length : Int) == 3) = true := beq_iff_eq.mpr c6
        have c6b1 : ((t104.length : Int) != 3) = false := bne_eq_false_iff_eq.mpr c6
        clear c6
        by_cases c7 : 0 < (t104.length : Int)
        · rw [if_pos c7] at H
          have c7b0 : decide (0 < (t104.length : Int)) = true := decide_eq_true c7
          have c7b1 : decide (0 < t104.length) = true := decide_eq_true (by omega)
          clear c7
          by_cases c8 : (rdOf ByteArray.empty t104 0).toList = ([97] : List UInt8)
          · rw [if_pos c8] at H
            have c8b0 : ((rdOf ByteArray.empty t104 0).toList == ([97] : List UInt8)) = true := beq_iff_eq.mpr c8
            have c8b1 : ((rdOf ByteArray.empty t104 0).toList != ([97] : List UInt8)) = false := bne_eq_false_iff_eq.mpr c8
            clear c8
            by_cases c9 : 1 < (t104.length : Int)
            · rw [if_pos c9] at H
              have c9b0 : decide (1 < (t104.length : Int)) = true := decide_eq_true c9
              have c9b1 : decide (1 < t104.length) = true := decide_eq_true (by omega)
              clear c9
              by_cases c10 : (rdOf ByteArray.empty t104 1).toList = ([] : List UInt8)
              · rw [if_pos c10] at H
                have c10b0 : ((rdOf ByteArray.empty t104 1).toList == ([] : List UInt8)) = true := beq_iff_eq.mpr c10
                have c10b1 : ((rdOf ByteArray.empty t104 1).toList != ([] : List UInt8)) = false := bne_eq_false_iff_eq.mpr c10
                clear c10
                by_cases c11 : 2 < (t104.length : Int)
                · rw [if_pos c11] at H
                  have c11b0 : decide (2 < (t104.length : Int)) = true := decide_eq_true c11
                  have c11b1 : decide (2 < t104.length) = true := decide_eq_true (by omega)
                  clear c11
                  by_cases c12 : (rdOf ByteArray.empty t104 2).toList = ([98] : List UInt8)
                  · rw [if_pos c12] at H
                    have c12b0 : ((rdOf ByteArray.empty t104 2).toList == ([98] : List UInt8)) = true := beq_iff_eq.mpr c12
                    have c12b1 : ((rdOf ByteArray.empty t104 2).toList != ([98] : List UInt8)) = false := bne_eq_false_iff_eq.mpr c12
                    clear c12
                    obtain rfl := Option.some.inj H
                    go_enter Tryd.func12, Tryd.ntmps12
                    go_wp2_with (first | ((with_reducible refine gate_callee (f := 11) rfl ?_); refine goesL_ (some 2) rfl rfl Tryd.func11 (by kernel_rfl) rfl #[.string (⟨#[97, 47, 47, 98]⟩ : ByteArray), .int .u8 47] rfl (by (try simp only [List.map_toArray, List.map_cons, List.map_nil]); first | done | rfl | (simp only [List.length_drop, List.length_take]; rfl)) ?_; (with_reducible refine (octet_Parts.calls (⟨#[97, 47, 47, 98]⟩ : ByteArray) 47 t104 _ A1.out).mono ?_); rintro e w13 ⟨v105, rfl, ho0, hb⟩; refine ⟨_, rfl, ?_⟩; have n0_ := Aside0.mk (Kd.R_lower ho0 (below_size (by repeat (first | (with_reducible first | exact HB.out | apply below_alloc | apply pw_below_drewN | apply below_drew1) | exact HB.out)))); have n1_ := Aside0.mk (below_step (by repeat (first | (with_reducible first | exact HB.out | apply below_alloc | apply pw_below_drewN | apply below_drew1) | exact HB.out)) hb); clear HB; have HO106 := n0_; have HB := n1_; clear n0_ n1_; (try clear hb); (try clear hb2); (try clear hk); (try clear hi); (try clear ho0)) | ((with_reducible refine gate_callee (f := 19) rfl ?_); refine goesL_ (some 3) rfl rfl Tryd.func19 (by kernel_rfl) rfl #[.int .u8 97] rfl (by (try simp only [List.map_toArray, List.map_cons, List.map_nil]); first | done | rfl | (simp only [List.length_drop, List.length_take]; rfl)) ?_; (with_reducible refine (octet_Class.calls 97 t107 _ A2.out).mono ?_); rintro e w14 ⟨rfl, hb⟩; refine ⟨_, rfl, ?_⟩; have n0_ := Aside0.mk (Kd.R_below (by (with_reducible repeat (first | apply Kd.R_alloc | apply Kd.R_drewN | apply Kd.R_drew)); exact HO106.out) hb); have n1_ := Aside0.mk (below_step (by repeat (first | (with_reducible first | exact HB.out | apply below_alloc | apply pw_below_drewN | apply below_drew1) | exact HB.out)) hb); clear HO106; clear HB; have HO106 := n0_; have HB := n1_; clear n0_ n1_; (try clear hb); (try clear hb2); (try clear hk); (try clear hi)) | (go_at_call 15; (with_reducible refine (octet_Cmp.calls (⟨#[97, 98]⟩ : ByteArray) (⟨#[97, 98, 99]⟩ : ByteArray) t108 _ A4.out).mono ?_); rintro e w' ⟨rfl, ⟨nd, rfl⟩⟩; obtain ⟨Ao15, co15, eo15⟩ := Kd.R_slice HO106.out; subst eo15; have p109 : 0 ≤ (0 : Int) := (by omega); have q109 : 0 < (t104.length : Int) := of_decide_eq_true (by first | (with_reducible assumption) | assumption); obtain ⟨ad109, e109, hx109_0⟩ := Kd.at_string (Kd.R_reads' HO106.out).2.2 0 p109 q109; cases e109; have qi109 : (0 < t104.length) = True := eq_true (by omega); (try rw [show ((0 : Int)).toNat = 0 from rfl] at hx109_0); (try rw [Addr.add_zero'] at hx109_0); replace p109 := eq_true p109; replace q109 := eq_true q109; have p110 : 0 ≤ (1 : Int) := (by omega); have q110 : 1 < (t104.length : Int) := of_decide_eq_true (by first | (with_reducible assumption) | assumption); obtain ⟨ad110, e110, hx110_0⟩ := Kd.at_string (Kd.R_reads' HO106.out).2.2 1 p110 q110; obtain rfl : ad109 = ad110 := (by injection e110); (try simp only [show (1 : Int).toNat = 1 from rfl, Nat.reduceMul, Nat.reduceEqDiff, Go.Addr.add, ↓reduceIte] at hx110_0); have qi110 : (1 < t104.length) = True := eq_true (by omega); (try rw [show ((1 : Int)).toNat = 1 from rfl] at hx110_0); replace p110 := eq_true p110; replace q110 := eq_true q110; have p111 : 0 ≤ (2 : Int) := (by omega); have q111 : 2 < (t104.length : Int) := of_decide_eq_true (by first | (with_reducible assumption) | assumption); obtain ⟨ad111, e111, hx111_0⟩ := Kd.at_string (Kd.R_reads' HO106.out).2.2 2 p111 q111; obtain rfl : ad109 = ad111 := (by injection e111); (try simp only [show (2 : Int).toNat = 2 from rfl, Nat.reduceMul, Nat.reduceEqDiff, Go.Addr.add, ↓reduceIte] at hx111_0); have qi111 : (2 < t104.length) = True := eq_true (by omega); (try rw [show ((2 : Int)).toNat = 2 from rfl] at hx111_0); replace p111 := eq_true p111; replace q111 := eq_true q111))
                    go_ret
                    exact ⟨by first | rfl | (simp [errW_none, errW_some] <;> rfl) | (simp [*, errW_none, errW_some] <;> rfl), by repeat (first | (with_reducible first | exact HB.out | apply below_alloc | apply pw_below_drewN | apply below_drew1) | exact HB.out)⟩
                  · rw [if_neg c12] at H
                    have c12b0 : ((rdOf ByteArray.empty t104 2).toList == ([98] : List UInt8)) = false := beq_eq_false_iff_ne.mpr c12
                    have c12b1 : ((rdOf ByteArray.empty t104 2).toList != ([98] : List UInt8)) = true := bne_iff_ne.mpr c12
                    obtain rfl := Option.some.inj H
                    go_enter Tryd.func12, Tryd.ntmps12
                    go_wp2_with (first | ((with_reducible refine gate_callee (f := 11) rfl ?_); refine goesL_ (some 2) rfl rfl Tryd.func11 (by kernel_rfl) rfl #[.string (⟨#[97, 47, 47, 98]⟩ : ByteArray), .int .u8 47] rfl (by (try simp only [List.map_toArray, List.map_cons, List.map_nil]); first | done | rfl | (simp only [List.length_drop, List.length_take]; rfl)) ?_; (with_reducible refine (octet_Parts.calls (⟨#[97, 47, 47, 98]⟩ : ByteArray) 47 t104 _ A1.out).mono ?_); rintro e w16 ⟨v105, rfl, ho0, hb⟩; refine ⟨_, rfl, ?_⟩; have n0_ := Aside0.mk (Kd.R_lower ho0 (below_size (by repeat (first | (with_reducible first | exact HB.out | apply below_alloc | apply pw_below_drewN | apply below_drew1) | exact HB.out)))); have n1_ := Aside0.mk (below_step (by repeat (first | (with_reducible first | exact HB.out | apply below_alloc | apply pw_below_drewN | apply below_drew1) | exact HB.out)) hb); clear HB; have HO106 := n0_; have HB := n1_; clear n0_ n1_; (try clear hb); (try clear hb2); (try clear hk); (try clear hi); (try clear ho0)) | ((with_reducible refine gate_callee (f := 19) rfl ?_); refine goesL_ (some 3) rfl rfl Tryd.func19 (by kernel_rfl) rfl #[.int .u8 97] rfl (by (try simp only [List.map_toArray, List.map_cons, List.map_nil]); first | done | rfl | (simp only [List.length_drop, List.length_take]; rfl)) ?_; (with_reducible refine (octet_Class.calls 97 t107 _ A2.out).mono ?_); rintro e w17 ⟨rfl, hb⟩; refine ⟨_, rfl, ?_⟩; have n0_ := Aside0.mk (Kd.R_below (by (with_reducible repeat (first | apply Kd.R_alloc | apply Kd.R_drewN | apply Kd.R_drew)); exact HO106.out) hb); have n1_ := Aside0.mk (below_step (by repeat (first | (with_reducible first | exact HB.out | apply below_alloc | apply pw_below_drewN | apply below_drew1) | exact HB.out)) hb); clear HO106; clear HB; have HO106 := n0_; have HB := n1_; clear n0_ n1_; (try clear hb); (try clear hb2); (try clear hk); (try clear hi)) | (go_at_call 15; (with_reducible refine (octet_Cmp.calls (⟨#[97, 98]⟩ : ByteArray) (⟨#[97, 98, 99]⟩ : ByteArray) t108 _ A4.out).mono ?_); rintro e w' ⟨rfl, ⟨nd, rfl⟩⟩; obtain ⟨Ao18, co18, eo18⟩ := Kd.R_slice HO106.out; subst eo18; have p109 : 0 ≤ (0 : Int) := (by omega); have q109 : 0 < (t104.length : Int) := of_decide_eq_true (by first | (with_reducible assumption) | assumption); obtain ⟨ad109, e109, hx109_0⟩ := Kd.at_string (Kd.R_reads' HO106.out).2.2 0 p109 q109; cases e109; have qi109 : (0 < t104.length) = True := eq_true (by omega); (try rw [show ((0 : Int)).toNat = 0 from rfl] at hx109_0); (try rw [Addr.add_zero'] at hx109_0); replace p109 := eq_true p109; replace q109 := eq_true q109; have p110 : 0 ≤ (1 : Int) := (by omega); have q110 : 1 < (t104.length : Int) := of_decide_eq_true (by first | (with_reducible assumption) | assumption); obtain ⟨ad110, e110, hx110_0⟩ := Kd.at_string (Kd.R_reads' HO106.out).2.2 1 p110 q110; obtain rfl : ad109 = ad110 := (by injection e110); (try simp only [show (1 : Int).toNat = 1 from rfl, Nat.reduceMul, Nat.reduceEqDiff, Go.Addr.add, ↓reduceIte] at hx110_0); have qi110 : (1 < t104.length) = True := eq_true (by omega); (try rw [show ((1 : Int)).toNat = 1 from rfl] at hx110_0); replace p110 := eq_true p110; replace q110 := eq_true q110; have p111 : 0 ≤ (2 : Int) := (by omega); have q111 : 2 < (t104.length : Int) := of_decide_eq_true (by first | (with_reducible assumption) | assumption); obtain ⟨ad111, e111, hx111_0⟩ := Kd.at_string (Kd.R_reads' HO106.out).2.2 2 p111 q111; obtain rfl : ad109 = ad111 := (by injection e111); (try simp only [show (2 : Int).toNat = 2 from rfl, Nat.reduceMul, Nat.reduceEqDiff, Go.Addr.add, ↓reduceIte] at hx111_0); have qi111 : (2 < t104.length) = True := eq_true (by omega); (try rw [show ((2 : Int)).toNat = 2 from rfl] at hx111_0); replace p111 := eq_true p111; replace q111 := eq_true q111))
                    go_ret
                    exact ⟨by first | rfl | (simp [errW_none, errW_some] <;> rfl) | (simp [*, errW_none, errW_some] <;> rfl), by repeat (first | (with_reducible first | exact HB.out | apply below_alloc | apply pw_below_drewN | apply below_drew1) | exact HB.out)⟩
                · rw [if_neg c11] at H
                  exact absurd H (by simp)
              · rw [if_neg c10] at H
                have c10b0 : ((rdOf ByteArray.empty t104 1).toList == ([] : List UInt8)) = false := beq_eq_false_iff_ne.mpr c10
                have c10b1 : ((rdOf ByteArray.empty t104 1).toList != ([] : List UInt8)) = true := bne_iff_ne.mpr c10
                obtain rfl := Option.some.inj H
                go_enter Tryd.func12, Tryd.ntmps12
                go_wp2_with (first | ((with_reducible refine gate_callee (f := 11) rfl ?_); refine goesL_ (some 2) rfl rfl Tryd.func11 (by kernel_rfl) rfl #[.string (⟨#[97, 47, 47, 98]⟩ : ByteArray), .int .u8 47] rfl (by (try simp only [List.map_toArray, List.map_cons, List.map_nil]); first | done | rfl | (simp only [List.length_drop, List.length_take]; rfl)) ?_; (with_reducible refine (octet_Parts.calls (⟨#[97, 47, 47, 98]⟩ : ByteArray) 47 t104 _ A1.out).mono ?_); rintro e w19 ⟨v105, rfl, ho0, hb⟩; refine ⟨_, rfl, ?_⟩; have n0_ := Aside0.mk (Kd.R_lower ho0 (below_size (by repeat (first | (with_reducible first | exact HB.out | apply below_alloc | apply pw_below_drewN | apply below_drew1) | exact HB.out)))); have n1_ := Aside0.mk (below_step (by repeat (first | (with_reducible first | exact HB.out | apply below_alloc | apply pw_below_drewN | apply below_drew1) | exact HB.out)) hb); clear HB; have HO106 := n0_; have HB := n1_; clear n0_ n1_; (try clear hb); (try clear hb2); (try clear hk); (try clear hi); (try clear ho0)) | ((with_reducible refine gate_callee (f := 19) rfl ?_); refine goesL_ (some 3) rfl rfl Tryd.func19 (by kernel_rfl) rfl #[.int .u8 97] rfl (by (try simp only [List.map_toArray, List.map_cons, List.map_nil]); first | done | rfl | (simp only [List.length_drop, List.length_take]; rfl)) ?_; (with_reducible refine (octet_Class.calls 97 t107 _ A2.out).mono ?_); rintro e w20 ⟨rfl, hb⟩; refine ⟨_, rfl, ?_⟩; have n0_ := Aside0.mk (Kd.R_below (by (with_reducible repeat (first | apply Kd.R_alloc | apply Kd.R_drewN | apply Kd.R_drew)); exact HO106.out) hb); have n1_ := Aside0.mk (below_step (by repeat (first | (with_reducible first | exact HB.out | apply below_alloc | apply pw_below_drewN | apply below_drew1) | exact HB.out)) hb); clear HO106; clear HB; have HO106 := n0_; have HB := n1_; clear n0_ n1_; (try clear hb); (try clear hb2); (try clear hk); (try clear hi)) | (go_at_call 15; (with_reducible refine (octet_Cmp.calls (⟨#[97, 98]⟩ : ByteArray) (⟨#[97, 98, 99]⟩ : ByteArray) t108 _ A4.out).mono ?_); rintro e w' ⟨rfl, ⟨nd, rfl⟩⟩; obtain ⟨Ao21, co21, eo21⟩ := Kd.R_slice HO106.out; subst eo21; have p109 : 0 ≤ (0 : Int) := (by omega); have q109 : 0 < (t104.length : Int) := of_decide_eq_true (by first | (with_reducible assumption) | assumption); obtain ⟨ad109, e109, hx109_0⟩ := Kd.at_string (Kd.R_reads' HO106.out).2.2 0 p109 q109; cases e109; have qi109 : (0 < t104.length) = True := eq_true (by omega); (try rw [show ((0 : Int)).toNat = 0 from rfl] at hx109_0); (try rw [Addr.add_zero'] at hx109_0); replace p109 := eq_true p109; replace q109 := eq_true q109; have p110 : 0 ≤ (1 : Int) := (by omega); have q110 : 1 < (t104.length : Int) := of_decide_eq_true (by first | (with_reducible assumption) | assumption); obtain ⟨ad110, e110, hx110_0⟩ := Kd.at_string (Kd.R_reads' HO106.out).2.2 1 p110 q110; obtain rfl : ad109 = ad110 := (by injection e110); (try simp only [show (1 : Int).toNat = 1 from rfl, Nat.reduceMul, Nat.reduceEqDiff, Go.Addr.add, ↓reduceIte] at hx110_0); have qi110 : (1 < t104.length) = True := eq_true (by omega); (try rw [show ((1 : Int)).toNat = 1 from rfl] at hx110_0); replace p110 := eq_true p110; replace q110 := eq_true q110))
                go_ret
                exact ⟨by first | rfl | (simp [errW_none, errW_some] <;> rfl) | (simp [*, errW_none, errW_some] <;> rfl), by repeat (first | (with_reducible first | exact HB.out | apply below_alloc | apply pw_below_drewN | apply below_drew1) | exact HB.out)⟩
            · rw [if_neg c9] at H
              exact absurd H (by simp)
          · rw [if_neg c8] at H
            have c8b0 : ((rdOf ByteArray.empty t104 0).toList == ([97] : List UInt8)) = false := beq_eq_false_iff_ne.mpr c8
            have c8b1 : ((rdOf ByteArray.empty t104 0).toList != ([97] : List UInt8)) = true := bne_iff_ne.mpr c8
            obtain rfl := Option.some.inj H
            go_enter Tryd.func12, Tryd.ntmps12
            go_wp2_with (first | ((with_reducible refine gate_callee (f := 11) rfl ?_); refine goesL_ (some 2) rfl rfl Tryd.func11 (by kernel_rfl) rfl #[.string (⟨#[97, 47, 47, 98]⟩ : ByteArray), .int .u8 47] rfl (by (try simp only [List.map_toArray, List.map_cons, List.map_nil]); first | done | rfl | (simp only [List.length_drop, List.length_take]; rfl)) ?_; (with_reducible refine (octet_Parts.calls (⟨#[97, 47, 47, 98]⟩ : ByteArray) 47 t104 _ A1.out).mono ?_); rintro e w22 ⟨v105, rfl, ho0, hb⟩; refine ⟨_, rfl, ?_⟩; have n0_ := Aside0.mk (Kd.R_lower ho0 (below_size (by repeat (first | (with_reducible first | exact HB.out | apply below_alloc | apply pw_below_drewN | apply below_drew1) | exact HB.out)))); have n1_ := Aside0.mk (below_step (by repeat (first | (with_reducible first | exact HB.out | apply below_alloc | apply pw_below_drewN | apply below_drew1) | exact HB.out)) hb); clear HB; have HO106 := n0_; have HB := n1_; clear n0_ n1_; (try clear hb); (try clear hb2); (try clear hk); (try clear hi); (try clear ho0)) | ((with_reducible refine gate_callee (f := 19) rfl ?_); refine goesL_ (some 3) rfl rfl Tryd.func19 (by kernel_rfl) rfl #[.int .u8 97] rfl (by (try simp only [List.map_toArray, List.map_cons, List.map_nil]); first | done | rfl | (simp only [List.length_drop, List.length_take]; rfl)) ?_; (with_reducible refine (octet_Class.calls 97 t107 _ A2.out).mono ?_); rintro e w23 ⟨rfl, hb⟩; refine ⟨_, rfl, ?_⟩; have n0_ := Aside0.mk (Kd.R_below (by (with_reducible repeat (first | apply Kd.R_alloc | apply Kd.R_drewN | apply Kd.R_drew)); exact HO106.out) hb); have n1_ := Aside0.mk (below_step (by repeat (first | (with_reducible first | exact HB.out | apply below_alloc | apply pw_below_drewN | apply below_drew1) | exact HB.out)) hb); clear HO106; clear HB; have HO106 := n0_; have HB := n1_; clear n0_ n1_; (try clear hb); (try clear hb2); (try clear hk); (try clear hi)) | (go_at_call 15; (with_reducible refine (octet_Cmp.calls (⟨#[97, 98]⟩ : ByteArray) (⟨#[97, 98, 99]⟩ : ByteArray) t108 _ A4.out).mono ?_); rintro e w' ⟨rfl, ⟨nd, rfl⟩⟩; obtain ⟨Ao24, co24, eo24⟩ := Kd.R_slice HO106.out; subst eo24; have p109 : 0 ≤ (0 : Int) := (by omega); have q109 : 0 < (t104.length : Int) := of_decide_eq_true (by first | (with_reducible assumption) | assumption); obtain ⟨ad109, e109, hx109_0⟩ := Kd.at_string (Kd.R_reads' HO106.out).2.2 0 p109 q109; cases e109; have qi109 : (0 < t104.length) = True := eq_true (by omega); (try rw [show ((0 : Int)).toNat = 0 from rfl] at hx109_0); (try rw [Addr.add_zero'] at hx109_0); replace p109 := eq_true p109; replace q109 := eq_true q109))
            go_ret
            exact ⟨by first | rfl | (simp [errW_none, errW_some] <;> rfl) | (simp [*, errW_none, errW_some] <;> rfl), by repeat (first | (with_reducible first | exact HB.out | apply below_alloc | apply pw_below_drewN | apply below_drew1) | exact HB.out)⟩
        · rw [if_neg c7] at H
          exact absurd H (by simp)
      · rw [if_neg c6] at H
        have c6b0 : ((t104.length : Int) == 3) = false := beq_eq_false_iff_ne.mpr c6
        have c6b1 : ((t104.length : Int) != 3) = true := bne_iff_ne.mpr c6
        obtain rfl := Option.some.inj H
        go_enter Tryd.func12, Tryd.ntmps12
        go_wp2_with (first | ((with_reducible refine gate_callee (f := 11) rfl ?_); refine goesL_ (some 2) rfl rfl Tryd.func11 (by kernel_rfl) rfl #[.string (⟨#[97, 47, 47, 98]⟩ : ByteArray), .int .u8 47] rfl (by (try simp only [List.map_toArray, List.map_cons, List.map_nil]); first | done | rfl | (simp only [List.length_drop, List.length_take]; rfl)) ?_; (with_reducible refine (octet_Parts.calls (⟨#[97, 47, 47, 98]⟩ : ByteArray) 47 t104 _ A1.out).mono ?_); rintro e w25 ⟨v105, rfl, ho0, hb⟩; refine ⟨_, rfl, ?_⟩; have n0_ := Aside0.mk (Kd.R_lower ho0 (below_size (by repeat (first | (with_reducible first | exact HB.out | apply below_alloc | apply pw_below_drewN | apply below_drew1) | exact HB.out)))); have n1_ := Aside0.mk (below_step (by repeat (first | (with_reducible first | exact HB.out | apply below_alloc | apply pw_below_drewN | apply below_drew1) | exact HB.out)) hb); clear HB; have HO106 := n0_; have HB := n1_; clear n0_ n1_; (try clear hb); (try clear hb2); (try clear hk); (try clear hi); (try clear ho0)) | ((with_reducible refine gate_callee (f := 19) rfl ?_); refine goesL_ (some 3) rfl rfl Tryd.func19 (by kernel_rfl) rfl #[.int .u8 97] rfl (by (try simp only [List.map_toArray, List.map_cons, List.map_nil]); first | done | rfl | (simp only [List.length_drop, List.length_take]; rfl)) ?_; (with_reducible refine (octet_Class.calls 97 t107 _ A2.out).mono ?_); rintro e w26 ⟨rfl, hb⟩; refine ⟨_, rfl, ?_⟩; have n0_ := Aside0.mk (Kd.R_below (by (with_reducible repeat (first | apply Kd.R_alloc | apply Kd.R_drewN | apply Kd.R_drew)); exact HO106.out) hb); have n1_ := Aside0.mk (below_step (by repeat (first | (with_reducible first | exact HB.out | apply below_alloc | apply pw_below_drewN | apply below_drew1) | exact HB.out)) hb); clear HO106; clear HB; have HO106 := n0_; have HB := n1_; clear n0_ n1_; (try clear hb); (try clear hb2); (try clear hk); (try clear hi)) | (go_at_call 15; (with_reducible refine (octet_Cmp.calls (⟨#[97, 98]⟩ : ByteArray) (⟨#[97, 98, 99]⟩ : ByteArray) t108 _ A4.out).mono ?_); rintro e w' ⟨rfl, ⟨nd, rfl⟩⟩; obtain ⟨Ao27, co27, eo27⟩ := Kd.R_slice HO106.out; subst eo27))
        go_ret
        exact ⟨by first | rfl | (simp [errW_none, errW_some] <;> rfl) | (simp [*, errW_none, errW_some] <;> rfl), by repeat (first | (with_reducible first | exact HB.out | apply below_alloc | apply pw_below_drewN | apply below_drew1) | exact HB.out)⟩
    · rw [if_neg c5] at H
      have c5b0 : (t108 == (-1)) = false := beq_eq_false_iff_ne.mpr c5
      have c5b1 : (t108 != (-1)) = true := bne_iff_ne.mpr c5
      obtain rfl := Option.some.inj H
      go_enter Tryd.func12, Tryd.ntmps12
      go_wp2_with (first | ((with_reducible refine gate_callee (f := 11) rfl ?_); refine goesL_ (some 2) rfl rfl Tryd.func11 (by kernel_rfl) rfl #[.string (⟨#[97, 47, 47, 98]⟩ : ByteArray), .int .u8 47] rfl (by (try simp only [List.map_toArray, List.map_cons, List.map_nil]); first | done | rfl | (simp only [List.length_drop, List.length_take]; rfl)) ?_; (with_reducible refine (octet_Parts.calls (⟨#[97, 47, 47, 98]⟩ : ByteArray) 47 t104 _ A1.out).mono ?_); rintro e w28 ⟨v105, rfl, ho0, hb⟩; refine ⟨_, rfl, ?_⟩; have n0_ := Aside0.mk (Kd.R_lower ho0 (below_size (by repeat (first | (with_reducible first | exact HB.out | apply below_alloc | apply pw_below_drewN | apply below_drew1) | exact HB.out)))); have n1_ := Aside0.mk (below_step (by repeat (first | (with_reducible first | exact HB.out | apply below_alloc | apply pw_below_drewN | apply below_drew1) | exact HB.out)) hb); clear HB; have HO106 := n0_; have HB := n1_; clear n0_ n1_; (try clear hb); (try clear hb2); (try clear hk); (try clear hi); (try clear ho0)) | ((with_reducible refine gate_callee (f := 19) rfl ?_); refine goesL_ (some 3) rfl rfl Tryd.func19 (by kernel_rfl) rfl #[.int .u8 97] rfl (by (try simp only [List.map_toArray, List.map_cons, List.map_nil]); first | done | rfl | (simp only [List.length_drop, List.length_take]; rfl)) ?_; (with_reducible refine (octet_Class.calls 97 t107 _ A2.out).mono ?_); rintro e w29 ⟨rfl, hb⟩; refine ⟨_, rfl, ?_⟩; have n0_ := Aside0.mk (Kd.R_below (by (with_reducible repeat (first | apply Kd.R_alloc | apply Kd.R_drewN | apply Kd.R_drew)); exact HO106.out) hb); have n1_ := Aside0.mk (below_step (by repeat (first | (with_reducible first | exact HB.out | apply below_alloc | apply pw_below_drewN | apply below_drew1) | exact HB.out)) hb); clear HO106; clear HB; have HO106 := n0_; have HB := n1_; clear n0_ n1_; (try clear hb); (try clear hb2); (try clear hk); (try clear hi)) | (go_at_call 15; (with_reducible refine (octet_Cmp.calls (⟨#[97, 98]⟩ : ByteArray) (⟨#[97, 98, 99]⟩ : ByteArray) t108 _ A4.out).mono ?_); rintro e w' ⟨rfl, ⟨nd, rfl⟩⟩))
      go_ret
      exact ⟨by first | rfl | (simp [errW_none, errW_some] <;> rfl) | (simp [*, errW_none, errW_some] <;> rfl), by repeat (first | (with_reducible first | exact HB.out | apply below_alloc | apply pw_below_drewN | apply below_drew1) | exact HB.out)⟩
  · rw [if_neg c3] at H
    have c3b0 : (t107 == 2) = false := beq_eq_false_iff_ne.mpr c3
    have c3b1 : (t107 != 2) = true := bne_iff_ne.mpr c3
    obtain rfl := Option.some.inj H
    go_enter Tryd.func12, Tryd.ntmps12
    go_wp2_with (first | ((with_reducible refine gate_callee (f := 11) rfl ?_); refine goesL_ (some 2) rfl rfl Tryd.func11 (by kernel_rfl) rfl #[.string (⟨#[97, 47, 47, 98]⟩ : ByteArray), .int .u8 47] rfl (by (try simp only [List.map_toArray, List.map_cons, List.map_nil]); first | done | rfl | (simp only [List.length_drop, List.length_take]; rfl)) ?_; (with_reducible refine (octet_Parts.calls (⟨#[97, 47, 47, 98]⟩ : ByteArray) 47 t104 _ A1.out).mono ?_); rintro e w30 ⟨v105, rfl, ho0, hb⟩; refine ⟨_, rfl, ?_⟩; have n0_ := Aside0.mk (Kd.R_lower ho0 (below_size (by repeat (first | (with_reducible first | exact HB.out | apply below_alloc | apply pw_below_drewN | apply below_drew1) | exact HB.out)))); have n1_ := Aside0.mk (below_step (by repeat (first | (with_reducible first | exact HB.out | apply below_alloc | apply pw_below_drewN | apply below_drew1) | exact HB.out)) hb); clear HB; have HO106 := n0_; have HB := n1_; clear n0_ n1_; (try clear hb); (try clear hb2); (try clear hk); (try clear hi); (try clear ho0)) | ((with_reducible refine gate_callee (f := 19) rfl ?_); refine goesL_ (some 3) rfl rfl Tryd.func19 (by kernel_rfl) rfl #[.int .u8 97] rfl (by (try simp only [List.map_toArray, List.map_cons, List.map_nil]); first | done | rfl | (simp only [List.length_drop, List.length_take]; rfl)) ?_; (with_reducible refine (octet_Class.calls 97 t107 _ A2.out).mono ?_); rintro e w31 ⟨rfl, hb⟩; refine ⟨_, rfl, ?_⟩; have n0_ := Aside0.mk (Kd.R_below (by (with_reducible repeat (first | apply Kd.R_alloc | apply Kd.R_drewN | apply Kd.R_drew)); exact HO106.out) hb); have n1_ := Aside0.mk (below_step (by repeat (first | (with_reducible first | exact HB.out | apply below_alloc | apply pw_below_drewN | apply below_drew1) | exact HB.out)) hb); clear HO106; clear HB; have HO106 := n0_; have HB := n1_; clear n0_ n1_; (try clear hb); (try clear hb2); (try clear hk); (try clear hi)))
    go_ret
    exact ⟨by first | rfl | (simp [errW_none, errW_some] <;> rfl) | (simp [*, errW_none, errW_some] <;> rfl), by repeat (first | (with_reducible first | exact HB.out | apply below_alloc | apply pw_below_drewN | apply below_drew1) | exact HB.out)⟩

end Go.Proofs.YtfhdbhocichpiaaDoor.P
