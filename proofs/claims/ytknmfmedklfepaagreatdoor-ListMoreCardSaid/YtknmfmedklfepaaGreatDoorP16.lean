-- Written by this project's own program (wip/tools/hp.py), driving the kit's print; hand texts among it. Not trusted: Lean checks it.
-- half the indentation
import Derived.Test.YtknmfmedklfepaaGreatDoorP0
import Derived.Test.YtknmfmedklfepaaGreatDoorP14
import Derived.Test.YtknmfmedklfepaaGreatDoorP15
namespace Go.Proofs.YtknmfmedklfepaaGreatDoor.P
open Go.RowKit Go.Proofs.YtknmfmedklfepaaGreatDoorW.PrintWords Go.Proofs.YtknmfmedklfepaaGreatDoorW.PrintLast Go.Proofs.YtknmfmedklfepaaGreatDoorW.PrintMore
attribute [local go_sem] max2_int min2_int max_two min_two max_three min_three max_four min_four   -- for this text's walks alone
set_option linter.unusedVariables false
set_option linter.unusedSimpArgs false

/-! ### HAND strings_IndexAny -/
def strings_IndexAny.f (a0 : ByteArray) (a1 : ByteArray) : Option Int := if a0.size ≤ 1000000000 ∧ 2 ≤ a1.size ∧ a1.size ≤ 64 ∧ ascL a1.data.toList = true then some (Lib.indexAny a0.data.toList a1.data.toList) else none
set_option maxRecDepth 100000 in
set_option maxHeartbeats 2000000 in
theorem strings_IndexAny.calls (a0 : ByteArray) (a1 : ByteArray) (r : Int) (w : World) (h : strings_IndexAny.f a0 a1 = some r) :
  Calls Tryz.prog 130 #[.string a0, .string a1] w fun e w' => e = .returned (.int .i64 r) ∧ Below w.heap.size w w' := by
 unfold strings_IndexAny.f at h
 by_cases hs : a0.size ≤ 1000000000 ∧ 2 ≤ a1.size ∧ a1.size ≤ 64 ∧ ascL a1.data.toList = true
 case neg => rw [if_neg hs] at h; cases h
 rw [if_pos hs] at h
 obtain rfl := Option.some.inj h
 clear h
 obtain ⟨hsz, hc2, hc64, hasc⟩ := hs
 have h116 : (Tryz.prog.info? (Tryz.lays153_ren.t 116)).map (fun i => (i.zero, i.size)) = some (some (.agg (Array.replicate 256 (.bool false))), 256) := by kernel_rfl
 by_cases h8 : 8 < a0.size
 ·refine (Any.strings_IndexAny_long Tryz.lays153 (zero_of_info h116).1 (zero_of_info h116).2 a0 a1 w hc2 h8 (by omega) (by omega) (fun j b hj => ?_)).mono fun e w' ⟨he, hw⟩ => ⟨he, by rw [hw]; exact below_alloc (below_alloc (Below.refl _ _) _) _⟩
  have := List.all_eq_true.1 hasc b (List.mem_of_getElem? hj)
  simpa using this
 have hemp : a1.toList.isEmpty = false := by
  rw [Lib.toList_data]
  cases h : a1.data.toList with
  | nil => have := Lib.size_eq a1; rw [h, List.length_nil] at this; omega
  | cons _ _ => rfl
 have hn1 : ((a1.size : Int) == 1) = false := beq_eq_false_iff_ne.2 (by omega)
 have hlong : ∀ W, Calls Tryz.prog 144 #[.int .i64 (a0.size : Int)] W fun e w' => e = .returned (.bool false) ∧ Drawn0 W w' := fun W =>
  strings_shouldUseASCIISet.calls _ false W (by unfold strings_shouldUseASCIISet.f; congr 1; exact decide_eq_false (by omega))
 have Hasc := Lib.hid hasc
 clear h116 hasc
 go_enter Tryz.func130, Tryz.ntmps130
 go_wp2_with (go_at_call 144; refine (hlong _).mono ?_; rintro e w0 ⟨rfl, hw⟩)
 have HB0 := Aside0.mk hw.below
 have hle0 : w.heap.size ≤ w0.heap.size := below_size hw.below
 clear hw
 go_loopw [] (fun wr => ∃ pos : Nat, pos ≤ a0.size ∧ Aside0 (Lib.NoAny a0.data.toList a1.data.toList pos) ∧ Aside0 (wr.heap[w0.heap.size]? = some (.stringIter a0 pos)) ∧ Aside0 (Below w.heap.size w wr)) (fun wr => a0.size - wr.iterPos w0.heap.size)
 case atStart => exact ⟨0, by omega, ⟨Lib.NoAny.zero _ _⟩, ⟨by show (w0.heap.push _)[w0.heap.size]? = _; simp⟩, ⟨below_alloc HB0.out _⟩⟩
 case round =>
  obtain ⟨pos, hp, hno, hit, hbel⟩ := hrel
  have hmeas : wr.iterPos w0.heap.size = pos := by unfold World.iterPos; rw [hit.out]
  have Hmeas := Lib.hid hmeas
  clear hmeas
  by_cases hlt : pos < a0.size
  ·have hkl : w0.heap.size < wr.heap.size := (Array.getElem?_eq_some_iff.1 hit.out).1
   have hnx := fun ty => run_next_at (P := Tryz.prog) wr w0.heap.size a0 pos ty hit.out hlt
   have hx : a0.data.toList[pos]? = some a0[pos] := Lib.data_getElem? a0 pos hlt
   -- the rune, its width, and what IndexRune says of it
   have hall : ∃ (c : Int) (n : Nat) (o : Int), (((Utf8.decode a0 pos).1 : Nat) : Int) = c ∧ (Utf8.decode a0 pos).2 = n ∧ 1 ≤ n ∧ pos + n ≤ a0.size ∧ strings_IndexRune.f a1 c = some o ∧
     (0 ≤ o → Lib.indexAny a0.data.toList a1.data.toList = pos) ∧ (¬ 0 ≤ o → Lib.NoAny a0.data.toList a1.data.toList (pos + n)) := by
    have hf1 : a1.size ≤ 1000000000 ∧ ascL a1.data.toList = true := ⟨by omega, Hasc.out⟩
    by_cases hlow : a0[pos].toNat < 128
    ·rw [decode_ascii a0 pos hlt hlow]
     have hback : ((a0[pos].toNat : Int)).toNat.toUInt8 = a0[pos] := by simp
     refine ⟨_, _, _, rfl, rfl, Nat.le_refl _, by omega, by unfold strings_IndexRune.f; rw [if_pos hf1, if_pos (by omega)], ?_, ?_⟩
     ·intro h0
      rw [hback] at h0
      refine Lib.indexAny_hit hno.out hx ?_
      rw [Lib.contains_iff_indexByte]; exact decide_eq_true h0
     ·intro h0
      rw [hback] at h0
      refine hno.out.succ hx ?_
      rw [Lib.contains_iff_indexByte]; exact decide_eq_false h0
    ·obtain ⟨d1, d2, d3, d4⟩ := decode_high a0 pos hlt (by omega)
     have hle : pos + (Utf8.decode a0 pos).2 ≤ a0.size := by
      obtain ⟨hj, -⟩ := d4 ((Utf8.decode a0 pos).2 - 1) (by omega)
      omega
     refine ⟨_, _, -1, rfl, rfl, d3, hle, by unfold strings_IndexRune.f; rw [if_pos hf1, if_neg (by omega), if_pos ⟨by omega, d2⟩], fun h => absurd h (by decide), fun _ => ?_⟩
     intro j b hj hb
     by_cases hjp : j < pos
     ·exact hno.out j b hjp hb
     ·obtain ⟨hjs, hge⟩ := d4 (j - pos) (by omega)
      have hjl := Lib.data_getElem? a0 (pos + (j - pos)) hjs
      have ej : pos + (j - pos) = j := by omega
      have hb' : a0.data.toList[pos + (j - pos)]? = some b := by rw [ej]; exact hb
      rw [hjl] at hb'
      have hbe := Option.some.inj hb'
      rw [hbe] at hge
      cases hcon : a1.data.toList.contains b with
      | false => rfl
      | true =>
       have hm : b ∈ a1.data.toList := List.contains_iff_mem.1 hcon
       have := List.all_eq_true.1 Hasc.out b hm
       rw [decide_eq_true_eq] at this
       omega
   obtain ⟨c, n, o, hc, hn, hn1', hpn, hfo, hhit, hmiss⟩ := hall
   rw [hc, hn] at hnx
   clear hx
   have hW1 : Below w.heap.size w (iterTo wr w0.heap.size a0 (pos + n)) := hbel.out.trans (iterTo_below wr w0.heap.size w.heap.size a0 (pos + n) hle0)
   have HW1 := Lib.hid hW1
   have HW2 := Lib.hid (iterTo_at wr w0.heap.size a0 (pos + n) hkl)
   have HW3 := Lib.hid (iterTo_size wr w0.heap.size a0 (pos + n))
   clear hW1
   obtain ⟨W1, hW1d⟩ : ∃ W1, W1 = iterTo wr w0.heap.size a0 (pos + n) := ⟨_, rfl⟩
   rw [← hW1d] at HW1 HW2 HW3 hnx
   clear hW1d
   have hcall : Calls Tryz.prog 143 #[.string a1, .int .i32 c] W1 fun e w' => e = .returned (.int .i64 o) ∧ Below w.heap.size w w' ∧ w'.heap[w0.heap.size]? = some (.stringIter a0 (pos + n)) := by
    refine (strings_IndexRune.calls a1 c o W1 hfo).mono fun e w' ⟨he, hb⟩ => ⟨he, ?_, ?_⟩
    ·exact HW1.out.trans (hb.mono (below_size HW1.out))
    ·rw [hb.block _ (by rw [HW3.out]; exact hkl)]; exact HW2.out
   have Hhit := Lib.hid hhit
   have Hmiss := Lib.hid hmiss
   have hnx2 := hnx
   clear hhit hmiss hfo hnx hc hn
   by_cases h0 : 0 ≤ o
   ·have hd : decide (0 ≤ o) = true := decide_eq_true h0
    go_wp2_with (go_at_call 143; refine hcall.mono ?_; rintro e w2 ⟨rfl, hb2, hi2⟩)
    go_ret
    exact ⟨by rw [Hhit.out h0]; rfl, hb2⟩
   ·have hd : decide (0 ≤ o) = false := decide_eq_false h0
    go_wp2_with (go_at_call 143; refine hcall.mono ?_; rintro e w2 ⟨rfl, hb2, hi2⟩)
    refine ⟨⟨pos + n, hpn, ⟨Hmiss.out h0⟩, ⟨hi2⟩, ⟨hb2⟩⟩, ?_⟩
    have : w2.iterPos w0.heap.size = pos + n := by unfold World.iterPos; rw [hi2]
    rw [this, Hmeas.out]
    omega
  ·have hnx := fun ty => run_next_out (P := Tryz.prog) wr w0.heap.size a0 pos ty hit.out hlt
   go_wp2
   go_ret
   have hpe : pos = a0.size := by omega
   subst hpe
   exact ⟨by rw [Lib.indexAny_none (by rw [← Lib.size_eq]; exact hno.out)]; rfl, hbel.out⟩

end Go.Proofs.YtknmfmedklfepaaGreatDoor.P
