-- Written by this project's own program (wip/tools/hp.py), driving the kit's print; hand texts among it. Not trusted: Lean checks it.
-- half the indentation
import Derived.Test.YtknmfmedklfepaaGreatDoorP0
import Derived.Test.YtknmfmedklfepaaGreatDoorP13
namespace Go.Proofs.YtknmfmedklfepaaGreatDoor.P
open Go.RowKit Go.Proofs.YtknmfmedklfepaaGreatDoorW.PrintWords Go.Proofs.YtknmfmedklfepaaGreatDoorW.PrintLast Go.Proofs.YtknmfmedklfepaaGreatDoorW.PrintMore
attribute [local go_sem] max2_int min2_int max_two min_two max_three min_three max_four min_four   -- for this text's walks alone
set_option linter.unusedVariables false
set_option linter.unusedSimpArgs false

/-! ### HAND strings_IndexRune -/
/-- Is a text of octets below 128 alone? -/
def ascL (l : List UInt8) : Bool := l.all fun b => decide (b.toNat < 128)
theorem encode_high (c : Int) (h : 128 ≤ c) (hv : Utf8.valid c = true) : ∃ (p : List UInt8) (x : UInt8), Utf8.encode c = ⟨(p ++ [x]).toArray⟩ ∧ 1 ≤ p.length ∧ p.length ≤ 3 ∧ 128 ≤ x.toNat := by
 obtain ⟨n, rfl⟩ := Int.eq_ofNat_of_zero_le (by omega : 0 ≤ c)
 have hn : 128 ≤ n := by omega
 have hb : ∀ m, 128 ≤ m → m < 192 → 128 ≤ (UInt8.ofNat m).toNat := by
  intro m h1 h2
  simp only [UInt8.toNat_ofNat']
  omega
 have he : Utf8.encode (n : Int) = if n < 128 then ⟨#[UInt8.ofNat n]⟩ else if n < 2048 then ⟨#[UInt8.ofNat (192 + n / 64), UInt8.ofNat (128 + n % 64)]⟩ else if n < 65536 then ⟨#[UInt8.ofNat (224 + n / 4096), UInt8.ofNat (128 + n / 64 % 64), UInt8.ofNat (128 + n % 64)]⟩
   else ⟨#[UInt8.ofNat (240 + n / 262144), UInt8.ofNat (128 + n / 4096 % 64), UInt8.ofNat (128 + n / 64 % 64), UInt8.ofNat (128 + n % 64)]⟩ := by
  unfold Utf8.encode
  simp only [hv, if_true, Int.toNat_natCast]
 rw [he, if_neg (by omega)]
 have hx := hb (128 + n % 64) (by omega) (by omega)
 split
 ·exact ⟨[_], _, rfl, by simp, by simp, hx⟩
 ·split
  ·exact ⟨[_, _], _, rfl, by simp, by simp, hx⟩
  ·exact ⟨[_, _, _], _, rfl, by simp, by simp, hx⟩
theorem indexByte_asc (l : List UInt8) (c : UInt8) (hl : ascL l = true) (hc : 128 ≤ c.toNat) : Lib.indexByte l c = -1 := by
 rcases Int.lt_or_le (Lib.indexByte l c) 0 with h | h
 ·have := Lib.indexByte_ge l c; omega
 ·obtain ⟨o, ho⟩ := Int.eq_ofNat_of_zero_le h
  obtain ⟨h1, -⟩ := Lib.indexByte_some ho
  obtain ⟨hlt, he⟩ := List.getElem?_eq_some_iff.1 h1
  have := List.all_eq_true.1 hl l[o] (List.getElem_mem hlt)
  rw [he, decide_eq_true_eq] at this
  omega
theorem validRune_ok (a0 : Int) (h : 128 ≤ a0) (hv : Utf8.valid a0 = true) : ∃ k, utf8_ValidRune.f k a0 = some true := by
 simp only [Utf8.valid, Bool.or_eq_true, Bool.and_eq_true, decide_eq_true_eq] at hv
 refine ⟨3, ?_⟩
 unfold utf8_ValidRune.f
 rw [if_pos (by omega)]
 by_cases h1 : a0 < 55296
 ·simp [utf8_ValidRune.j0, h1]
 ·have h2 : 57344 ≤ a0 ∧ a0 ≤ 1114111 := by omega
  simp only [utf8_ValidRune.j0, h1, decide_false, Bool.false_eq_true, if_false]
  simp [show (57343 : Int) < a0 by omega, h2.2]
def strings_IndexRune.f (a0 : ByteArray) (a1 : Int) : Option Int := if a0.size ≤ 1000000000 ∧ ascL a0.data.toList = true then (if 0 ≤ a1 ∧ a1 < 128 then some (Lib.indexByte a0.data.toList a1.toNat.toUInt8) else if 128 ≤ a1 ∧ Utf8.valid a1 = true then some (-1) else none) else none
set_option maxRecDepth 100000 in
set_option maxHeartbeats 2000000 in
theorem strings_IndexRune.calls (a0 : ByteArray) (a1 : Int) (r : Int) (w : World) (h : strings_IndexRune.f a0 a1 = some r) :
  Calls Tryz.prog 143 #[.string a0, .int .i32 a1] w fun e w' => e = .returned (.int .i64 r) ∧ Below w.heap.size w w' := by
 unfold strings_IndexRune.f at h
 by_cases hs : a0.size ≤ 1000000000 ∧ ascL a0.data.toList = true
 case neg => rw [if_neg hs] at h; cases h
 rw [if_pos hs] at h
 by_cases h1 : 0 ≤ a1 ∧ a1 < 128
 ·rw [if_pos h1] at h
  obtain rfl := Option.some.inj h
  exact (Any.strings_IndexRune_ascii { Tryz.lays153 with } a0 a1 w h1.1 h1.2).mono fun e w' ⟨he, hw⟩ => ⟨he, hw ▸ Below.refl _ _⟩
 rw [if_neg h1] at h
 by_cases h2 : 128 ≤ a1 ∧ Utf8.valid a1 = true
 case neg => rw [if_neg h2] at h; cases h
 rw [if_pos h2] at h
 obtain rfl := Option.some.inj h
 clear h
 obtain ⟨hsz, hasc⟩ := hs
 obtain ⟨hlo, hval⟩ := h2
 have hasc' := Lib.hid hasc
 have hd0 : decide (0 ≤ a1) = true := decide_eq_true (by omega)
 have hd1 : decide (a1 < 128) = false := decide_eq_false (by omega)
 by_cases he : a1 = 65533
 ·subst he
  clear hval
  go_enter Tryz.func143, Tryz.ntmps143
  go_wp2
  go_loopw [] (fun wr => ∃ pos : Nat, pos ≤ a0.size ∧ Aside0 (wr.heap[w.heap.size]? = some (.stringIter a0 pos)) ∧ Aside0 (Below w.heap.size w wr)) (fun wr => a0.size - wr.iterPos w.heap.size)
  case atStart => exact ⟨0, by omega, ⟨by show (w.heap.push _)[w.heap.size]? = _; simp⟩, ⟨below_alloc (Below.refl _ _) _⟩⟩
  case round =>
   obtain ⟨pos, hp, hit, hbel⟩ := hrel
   have hmeas : wr.iterPos w.heap.size = pos := by unfold World.iterPos; rw [hit.out]
   have Hmeas := Lib.hid hmeas
   clear hmeas
   by_cases hlt : pos < a0.size
   ·have hkl : w.heap.size < wr.heap.size := (Array.getElem?_eq_some_iff.1 hit.out).1
    have hlow : a0[pos].toNat < 128 := by
     have := List.all_eq_true.1 hasc a0[pos] (List.getElem_mem (l := a0.data.toList) (n := pos) (by simpa using hlt))
     simpa using this
    have hnx := fun ty => run_next_at (P := Tryz.prog) wr w.heap.size a0 pos ty hit.out hlt
    rw [decode_ascii a0 pos hlt hlow] at hnx
    have hW1 : Below w.heap.size w (iterTo wr w.heap.size a0 (pos + 1)) := hbel.out.trans (iterTo_below wr w.heap.size w.heap.size a0 (pos + 1) (Nat.le_refl _))
    have HW1 := Lib.hid hW1
    have HW2 := Lib.hid (iterTo_at wr w.heap.size a0 (pos + 1) hkl)
    clear hW1
    obtain ⟨c, hc⟩ : ∃ c : Int, c = (a0[pos].toNat : Int) := ⟨_, rfl⟩
    rw [← hc] at hnx
    have hcn : (c == 65533) = false := beq_eq_false_iff_ne.2 (by omega)
    clear hc hlow
    obtain ⟨W1, hW1d⟩ : ∃ W1, W1 = iterTo wr w.heap.size a0 (pos + 1) := ⟨_, rfl⟩
    rw [← hW1d] at HW1 HW2 hnx
    clear hW1d
    go_wp2
    refine ⟨⟨pos + 1, by omega, ⟨HW2.out⟩, ⟨HW1.out⟩⟩, ?_⟩
    have : W1.iterPos w.heap.size = pos + 1 := by unfold World.iterPos; rw [HW2.out]
    rw [this, Hmeas.out]
    omega
   ·have hnx := fun ty => run_next_out (P := Tryz.prog) wr w.heap.size a0 pos ty hit.out hlt
    go_wp2
    go_ret
    exact ⟨rfl, hbel.out⟩
 ·have hne : (a1 == 65533) = false := beq_eq_false_iff_ne.2 he
  obtain ⟨kv, hkv⟩ := validRune_ok a1 hlo hval
  obtain ⟨rp, rx, hrs, e1, e3, ex⟩ := encode_high a1 hlo hval
  obtain ⟨rs, hrd⟩ : ∃ rs : ByteArray, rs = ⟨(rp ++ [rx]).toArray⟩ := ⟨_, rfl⟩
  obtain ⟨m, hm⟩ : ∃ m, m = rp.length := ⟨_, rfl⟩
  have hrz : rs.size = m + 1 := by rw [hrd, hm]; simp [ByteArray.size]
  have hcv : ∀ W, (convert 21 9 (.int .i32 a1)).run Tryz.prog W = .ok (.string rs) W := fun W => by
   rw [run_convert_int_string W _ _ .i32 a1 rfl rfl, hrs, hrd]
  have hx0 : (0 : Int) ≤ (m : Int) ∧ (m : Int) < (rs.size : Int) := by omega
  have hwl : IntKind.i64.wrap ((rs.size : Int) - 1) = (m : Int) := by rw [hrz]; simp [IntKind.wrap, IntKind.signed, IntKind.bits]; omega
  have hx2 : (m : Int) < (m : Int) + 1 := by omega
  have hx3 : (0 : Int) ≤ (m : Int) := by omega
  have hbt : ∀ h : m < rs.size, rs[m]'h = rx := by
   intro h
   subst hrd hm
   show (rp ++ [rx]).toArray[rp.length] = rx
   simp
  have hmlt : m < 4 := by omega
  have hex := Lib.hid ex
  clear hrs hrd hm e1 e3 ex hval
  go_enter Tryz.func143, Tryz.ntmps143
  go_wp2_with (first | (go_at_call 154; refine (utf8_ValidRune.calls kv a1 true _ hkv).mono ?_; rintro e w' ⟨rfl, hw⟩))
  go_step3
  go_wp2
  have HW := Aside0.mk hw
  clear hw hcv hwl hd0 hd1 hne hkv
  go_loopw [9] (fun v9 wr => v9 = .int .i64 m ∧ Aside0 (Drawn0 w wr)) (fun _ _ => 0)
  case atStart => exact ⟨rfl, HW⟩
  case round =>
   obtain ⟨rfl, hb⟩ := hrel
   by_cases hlt : m < a0.size
   ·have hx1 : (0 : Int) ≤ (m : Int) ∧ (m : Int) < (a0.size : Int) := by omega
    have hlow : a0[m].toNat < 128 := by
     have := List.all_eq_true.1 hasc a0[m] (List.getElem_mem (l := a0.data.toList) (n := m) (by simpa using hlt))
     simpa using this
    have hexo := hex.out
    have hneq : ((a0[m].toNat : Int) != (rx.toNat : Int)) = true := bne_iff_ne.2 (by omega)
    have hs1 : (0 : Int) ≤ (m : Int) + 1 := by omega
    have hs2 : (m : Int) + 1 ≤ (a0.size : Int) := by omega
    have hs3 : ((m : Int) + 1).toNat = m + 1 := by omega
    have hs4 : IntKind.i64.wrap ((m : Int) + 1) = (m : Int) + 1 := by simp [IntKind.wrap, IntKind.signed, IntKind.bits]; omega
    clear hexo hlow
    have hcall : ∀ W, Calls Tryz.prog 153 #[.string (a0.extract (m + 1) a0.size), .int .u8 rx.toNat] W fun e w' => e = .returned (.int .i64 (-1)) ∧ w' = W := fun W => by
     refine (Any.strings_IndexByte { Tryz.lays153 with } _ _ W).mono fun e w' ⟨he, hw⟩ => ⟨?_, hw⟩
     rw [he, indexByte_asc]
     ·unfold ascL at hasc ⊢
      rw [Lib.extract_data]
      simp only [List.all_eq_true] at hasc ⊢
      exact fun x hx => hasc x (List.mem_of_mem_drop (List.mem_of_mem_take hx))
     ·have : ((rx.toNat : Int)).toNat.toUInt8 = rx := by simp
      rw [this]; exact hex.out
    clear hasc hasc' hex
    go_wp2
    go_step3
    go_wp2
    go_region
    go_wp2
    go_region_with (go_at_call 153; refine (hcall _).mono ?_; rintro e w' ⟨rfl, rfl⟩)
    go_wp2
    show bodyPost Tryz.prog Tryz.f143 (fun e w' => e = Ending.returned (Value.int IntKind.i64 (-1)) ∧ Below w.heap.size w w') Exit.ret _ _
    refine bodyPost_ret (results_tmp rfl _ _ _) rfl ?_
    exact ⟨rfl, hb.out.below.drew.drew⟩
   ·have hx1 : ¬ ((m : Int) < (a0.size : Int)) := by omega
    go_wp2
    go_ret
    exact ⟨rfl, hb.out.below⟩

end Go.Proofs.YtknmfmedklfepaaGreatDoor.P
