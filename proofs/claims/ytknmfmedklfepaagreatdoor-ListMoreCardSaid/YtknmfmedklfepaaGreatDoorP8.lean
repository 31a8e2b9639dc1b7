-- Written by this project's own program (wip/tools/hp.py), driving the kit's print; hand texts among it. Not trusted: Lean checks it.
-- half the indentation
import Derived.Test.YtknmfmedklfepaaGreatDoorP0
import Derived.Test.YtknmfmedklfepaaGreatDoorP5
import Derived.Test.YtknmfmedklfepaaGreatDoorP6
import Derived.Test.YtknmfmedklfepaaGreatDoorP7
namespace Go.Proofs.YtknmfmedklfepaaGreatDoor.P
open Go.RowKit Go.Proofs.YtknmfmedklfepaaGreatDoorW.PrintWords Go.Proofs.YtknmfmedklfepaaGreatDoorW.PrintLast Go.Proofs.YtknmfmedklfepaaGreatDoorW.PrintMore
attribute [local go_sem] max2_int min2_int max_two min_two max_three min_three max_four min_four   -- for this text's walks alone
set_option linter.unusedVariables false
set_option linter.unusedSimpArgs false

/-! ### HAND path_element -/
/-- An octet that an element may have. -/
def elemOk (b : UInt8) : Bool := ([1, 2, 3] : List Int).contains (clsOf b.toNat)
def elemPre (l : List UInt8) : Bool := l.all elemOk && !(l.head? == some 46)
def lastR (l : List UInt8) : Int := ((l.getLast?.getD 46).toNat : Int)
def elemL (l : List UInt8) : Bool := elemPre l && !(lastR l == 46)
theorem elemOk_low (b : UInt8) (h : 128 ≤ b.toNat) : elemOk b = false := by
 have : clsOf b.toNat = 0 := by
  unfold clsOf
  repeat' split
  all_goals omega
 simp [elemOk, this]
theorem elemPre_bad (l r : List UInt8) (h : elemPre l = false) (hl : l ≠ []) : elemPre (l ++ r) = false := by
 unfold elemPre at h ⊢
 rw [List.all_append]
 cases l with
 | nil => exact absurd rfl hl
 | cons b l =>
  rw [Bool.and_eq_false_iff] at h ⊢
  rcases h with h | h
  ·exact .inl (by rw [h]; rfl)
  ·exact .inr h
theorem elemPre_snoc (l : List UInt8) (b : UInt8) (h : elemPre l = true) : elemPre (l ++ [b]) = (elemOk b && !(decide (l.length = 0) && b == 46)) := by
 unfold elemPre at h ⊢
 rw [Bool.and_eq_true] at h
 rw [List.all_append, h.1]
 cases l with
 | nil => simp
 | cons c l => simpa using fun _ => h.2
theorem In3_eq (c : Int) (h0 : 0 ≤ c) (h1 : c < 256) : octet_In.f 5 c [1, 2, 3] = some (([1, 2, 3] : List Int).contains (clsOf c)) := by
 unfold octet_In.f octet_Class.f
 rw [if_pos h0, if_pos h1]
 have := clsOf_range c
 generalize clsOf c = t at *
 obtain rfl | rfl | rfl | rfl | rfl | rfl | rfl | rfl | rfl | rfl : t = 0 ∨ t = 1 ∨ t = 2 ∨ t = 3 ∨ t = 4 ∨ t = 5 ∨ t = 6 ∨ t = 7 ∨ t = 8 ∨ t = 9 := by omega
 all_goals decide +kernel
def path_element.f (a0 : ByteArray) : Option Bool := if a0.size ≤ 1000000000 then some (elemL a0.data.toList) else none
set_option maxRecDepth 100000 in
set_option maxHeartbeats 1000000 in
theorem path_element.calls (a0 : ByteArray) (r : Bool) (w : World) (h : path_element.f a0 = some r) :
  Calls Tryz.prog 89 #[.string a0] w fun e w' => e = .returned (.bool r) ∧ Below w.heap.size w w' := by
 unfold path_element.f at h
 by_cases hs : a0.size ≤ 1000000000
 case neg => rw [if_neg hs] at h; cases h
 rw [if_pos hs] at h
 obtain rfl := Option.some.inj h
 clear h
 go_enter Tryz.func89, Tryz.ntmps89
 go_wp2
 go_loopw [3] (fun v3 wr => ∃ pos : Nat, pos ≤ a0.size ∧ v3 = .int .i32 (lastR (a0.data.toList.take pos)) ∧ Aside0 (elemPre (a0.data.toList.take pos) = true) ∧ Aside0 (wr.heap[w.heap.size]? = some (.stringIter a0 pos)) ∧ Aside0 (Below w.heap.size w wr)) (fun _ wr => a0.size - wr.iterPos w.heap.size)
 case atStart => exact ⟨0, by omega, rfl, ⟨rfl⟩, ⟨by show (w.heap.push _)[w.heap.size]? = _; simp⟩, ⟨below_alloc (Below.refl _ _) _⟩⟩
 case round =>
  obtain ⟨pos, hp, rfl, hpre, hit, hbel⟩ := hrel
  have hmeas : wr.iterPos w.heap.size = pos := by unfold World.iterPos; rw [hit.out]
  have Hmeas := Lib.hid hmeas
  clear hmeas
  by_cases hlt : pos < a0.size
  ·have hkl : w.heap.size < wr.heap.size := (Array.getElem?_eq_some_iff.1 hit.out).1
   have hnx := fun ty => run_next_at (P := Tryz.prog) wr w.heap.size a0 pos ty hit.out hlt
   have hts : a0.data.toList.take (pos + 1) = a0.data.toList.take pos ++ [a0[pos]] := by
    rw [List.take_succ_eq_append_getElem (by simpa using hlt)]; rfl
   have hlen : (a0.data.toList.take pos).length = pos := by rw [List.length_take]; simp; omega
   have hsplit : a0.data.toList = a0.data.toList.take (pos + 1) ++ a0.data.toList.drop (pos + 1) := (List.take_append_drop _ _).symm
   have hsn := elemPre_snoc _ a0[pos] hpre.out
   rw [← hts, hlen] at hsn
   have hbad : elemPre (a0.data.toList.take (pos + 1)) = false → elemL a0.data.toList = false := fun hb => by
    have := elemPre_bad _ (a0.data.toList.drop (pos + 1)) hb (by rw [hts]; simp)
    rw [← hsplit] at this
    unfold elemL
    rw [this]; rfl
   have hb3 := a0[pos].toNat_lt
   have hlast : lastR (a0.data.toList.take (pos + 1)) = (a0[pos].toNat : Int) := by rw [hts]; unfold lastR; simp
   clear hlen hsplit hts
   by_cases hlow : a0[pos].toNat < 128
   ·rw [decode_ascii a0 pos hlt hlow] at hnx
    have hW1 : Below w.heap.size w (iterTo wr w.heap.size a0 (pos + 1)) := hbel.out.trans (iterTo_below wr w.heap.size w.heap.size a0 (pos + 1) (Nat.le_refl _))
    have HW1 := Lib.hid hW1
    have HW2 := Lib.hid (iterTo_at wr w.heap.size a0 (pos + 1) hkl)
    have HW3 := Lib.hid (iterTo_size wr w.heap.size a0 (pos + 1))
    clear hW1
    obtain ⟨c, hc⟩ : ∃ c : Int, c = (a0[pos].toNat : Int) := ⟨_, rfl⟩
    have hok : elemOk a0[pos] = ([1, 2, 3] : List Int).contains (clsOf c) := by rw [hc]; rfl
    have h46 : (a0[pos] == 46) = (c == 46) := by
     rw [hc]
     by_cases hx : a0[pos] = 46
     ·rw [hx]; rfl
     ·rw [beq_eq_false_iff_ne.2 hx, beq_eq_false_iff_ne.2 (fun e => hx (UInt8.toNat_inj.1 (by have : (46 : UInt8).toNat = 46 := rfl; omega)))]
    rw [hok, h46] at hsn
    rw [← hc] at hnx hlast
    have hc0 : 0 ≤ c := by omega
    have hc1 : c < 128 := by omega
    have Hnx := Lib.hid hnx
    have Hsn := Lib.hid hsn
    have Hlast := Lib.hid hlast
    have Hbad := Lib.hid hbad
    clear hok h46 hc hnx hsn hlast hbad hb3 hlow
    have hIn := In3_eq c hc0 (by omega)
    have hu8 : IntKind.u8.wrap c = c := by unfold IntKind.wrap; simp [IntKind.signed, IntKind.bits]; omega
    have hd : decide (c > 127) = false := decide_eq_false (by omega)
    have hnx := Hnx.out
    obtain ⟨W1, hW1d⟩ : ∃ W1, W1 = iterTo wr w.heap.size a0 (pos + 1) := ⟨_, rfl⟩
    rw [← hW1d] at HW1 HW2 HW3 hnx
    have HW1d := Lib.hid hW1d
    have hcall : ∀ b : Bool, octet_In.f 5 c [1, 2, 3] = some b → Calls Tryz.prog 106 #[.int .u8 c, .slice (some ⟨W1.heap.size, 0, none⟩) 3 3] (W1.alloc (.cells #[.int .i64 1, .int .i64 2, .int .i64 3] 3))
      fun e w' => e = .returned (.bool b) ∧ Below w.heap.size w w' ∧ w'.heap[w.heap.size]? = some (.stringIter a0 (pos + 1)) := fun b hb => by
     refine (octet_In.calls 5 c (some ⟨W1.heap.size, 0, none⟩) 3 [1, 2, 3] b _ (C_new_ints W1 .i64 [1, 2, 3] 3 (by decide)) (by decide) hb).mono ?_
     rintro e w' ⟨he, hbb⟩
     have hx : Below W1.heap.size W1 (W1.alloc (.cells #[.int .i64 1, .int .i64 2, .int .i64 3] 3)) := below_alloc (Below.refl _ _) _
     have hy : Below W1.heap.size W1 w' := below_step hx hbb
     have hle : w.heap.size < W1.heap.size := by rw [HW3.out]; exact hkl
     refine ⟨he, HW1.out.trans (hy.mono (by omega)), ?_⟩
     rw [hy.block _ hle]
     exact HW2.out
    have Hcall := Lib.hid hcall
    clear hW1d hcall
    cases hcon : ([1, 2, 3] : List Int).contains (clsOf c) with
    | false =>
     have hb := Hbad.out (by rw [Hsn.out, hcon]; rfl)
     have Hb := Lib.hid hb
     rw [hcon] at hIn
     have HIn := Lib.hid hIn
     clear hb hIn hcon
     go_wp2_with fail
     refine (Hcall.out _ HIn.out).mono ?_
     rintro e w2 ⟨rfl, hb2, hi2⟩
     have Hb2 := Lib.hid hb2
     clear hb2 hi2
     go_wp2
     go_ret
     exact ⟨by rw [Hb.out]; rfl, Hb2.out⟩
    | true =>
     rw [hcon] at hIn
     have HIn := Lib.hid hIn
     rw [hcon] at Hsn
     clear hIn hcon
     by_cases hp0 : pos = 0
     ·have hp1 : ((pos : Int) == 0) = true := beq_iff_eq.2 (by omega)
      by_cases h46 : c = 46
      ·have h47 : (c == 46) = true := beq_iff_eq.2 h46
       have hb := Hbad.out (by rw [Hsn.out, h47, decide_eq_true hp0]; rfl)
       have Hb := Lib.hid hb
       clear hb h46 hp0
       go_wp2_with fail
       refine (Hcall.out _ HIn.out).mono ?_
       rintro e w2 ⟨rfl, hb2, hi2⟩
       have Hb2 := Lib.hid hb2
       clear hb2 hi2
       go_wp2
       go_ret
       exact ⟨by rw [Hb.out]; rfl, Hb2.out⟩
      ·have h47 : (c == 46) = false := beq_eq_false_iff_ne.2 h46
       have hg : elemPre (a0.data.toList.take (pos + 1)) = true := by rw [Hsn.out, h47, decide_eq_true hp0]; rfl
       have Hg := Lib.hid hg
       clear hg h46 hp0
       go_wp2_with fail
       refine (Hcall.out _ HIn.out).mono ?_
       rintro e w2 ⟨rfl, hb2, hi2⟩
       have Hb2 := Lib.hid hb2
       have Hi2 := Lib.hid hi2
       clear hb2 hi2
       go_wp2
       refine ⟨⟨pos + 1, by omega, by rw [Hlast.out], ⟨Hg.out⟩, ⟨Hi2.out⟩, ⟨Hb2.out⟩⟩, ?_⟩
       have hm2 : w2.iterPos w.heap.size = pos + 1 := by unfold World.iterPos; rw [Hi2.out]
       rw [hm2, Hmeas.out]
       omega
     ·have hp1 : ((pos : Int) == 0) = false := beq_eq_false_iff_ne.2 (by omega)
      have hg : elemPre (a0.data.toList.take (pos + 1)) = true := by rw [Hsn.out, decide_eq_false hp0]; rfl
      have Hg := Lib.hid hg
      clear hg hp0
      go_wp2_with fail
      refine (Hcall.out _ HIn.out).mono ?_
      rintro e w2 ⟨rfl, hb2, hi2⟩
      have Hb2 := Lib.hid hb2
      have Hi2 := Lib.hid hi2
      clear hb2 hi2
      go_wp2
      refine ⟨⟨pos + 1, by omega, by rw [Hlast.out], ⟨Hg.out⟩, ⟨Hi2.out⟩, ⟨Hb2.out⟩⟩, ?_⟩
      have hm2 : w2.iterPos w.heap.size = pos + 1 := by unfold World.iterPos; rw [Hi2.out]
      rw [hm2, Hmeas.out]
      omega
   ·have hhi := decode_high a0 pos hlt (by omega)
    have hbad2 := hbad (by rw [hsn, elemOk_low _ (by omega)]; rfl)
    have Hbad2 := Lib.hid hbad2
    clear hbad hbad2 hsn hlast
    have hd : decide (((Utf8.decode a0 pos).1 : Int) > 127) = true := decide_eq_true (by omega)
    generalize Utf8.decode a0 pos = D at *
    go_wp2
    go_ret
    exact ⟨by rw [Hbad2.out]; rfl, hbel.out.trans (iterTo_below _ _ _ _ _ (Nat.le_refl _))⟩
  ·have hnx := fun ty => run_next_out (P := Tryz.prog) wr w.heap.size a0 pos ty hit.out hlt
   have htk : a0.data.toList.take pos = a0.data.toList := List.take_of_length_le (by simp; omega)
   have hpre2 := hpre.out
   rw [htk] at hpre2 ⊢
   have hfin : elemL a0.data.toList = !(lastR a0.data.toList == 46) := by unfold elemL; rw [hpre2]; rfl
   have Hfin := Lib.hid hfin
   clear hfin hpre2 htk
   go_wp2
   go_ret
   exact ⟨by rw [Hfin.out]; rfl, hbel.out⟩

end Go.Proofs.YtknmfmedklfepaaGreatDoor.P
