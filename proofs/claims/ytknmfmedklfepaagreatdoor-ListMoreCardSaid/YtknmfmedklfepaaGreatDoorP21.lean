-- Written by this project's own program (wip/tools/hp.py), driving the kit's print; hand texts among it. Not trusted: Lean checks it.
-- half the indentation
import Derived.Test.YtknmfmedklfepaaGreatDoorP0
import Derived.Test.YtknmfmedklfepaaGreatDoorP17
namespace Go.Proofs.YtknmfmedklfepaaGreatDoor.P
open Go.RowKit Go.Proofs.YtknmfmedklfepaaGreatDoorW.PrintWords Go.Proofs.YtknmfmedklfepaaGreatDoorW.PrintLast Go.Proofs.YtknmfmedklfepaaGreatDoorW.PrintMore
attribute [local go_sem] max2_int min2_int max_two min_two max_three min_three max_four min_four   -- for this text's walks alone
set_option linter.unusedVariables false
set_option linter.unusedSimpArgs false

/-! ### HAND tally_find -/
/-- How a path lies to another one. -/
def cmpP (p q : ByteArray) : Int := if Op.bytesLess p.toList q.toList = true then -1 else if Op.bytesLess q.toList p.toList = true then 1 else 0
theorem cmpP_eq (p q : ByteArray) : octet_Cmp.f p q = some (cmpP p q) := by
 unfold octet_Cmp.f cmp_Compare_string.f cmp_isNaN_string.f cmpP
 rw [bne_self_eq_false, bne_self_eq_false]
 simp only [Option.bind_some, Bool.false_eq_true, if_false]
 split <;> (try split) <;> rfl
def bsGo (l : List S63) (p : ByteArray) : Nat → Nat → Nat → Nat
 | 0, i, _ => i
 | n + 1, i, j => if i < j then (if cmpP (rd_T63 l (((i + j) / 2 : Nat) : Int)).f0 p < 0 then bsGo l p n ((i + j) / 2 + 1) j else bsGo l p n i ((i + j) / 2)) else i
/-- Where a path's row stands, or would. -/
def bsR (l : List S63) (p : ByteArray) : Nat := bsGo l p l.length 0 l.length
def hasR (l : List S63) (p : ByteArray) : Bool := decide (bsR l p < l.length) && (cmpP (rd_T63 l (bsR l p : Int)).f0 p == 0)
def tally_find.f (l0 : List (S63)) (a1 : ByteArray) : Option (Int × Bool) := if l0.length ≤ 1000000000 then some ((bsR l0 a1 : Int), hasR l0 a1) else none
theorem bsGo_ge (l : List S63) (p : ByteArray) (i j : Nat) (h : ¬ i < j) : ∀ n, bsGo l p n i j = i
 | 0 => rfl
 | n + 1 => by rw [bsGo, if_neg h]
theorem cell_keep {W W' : World} {a : Addr} {v : Value} (h : W.cell? a = some v) (hb : Below W.heap.size W W') : W'.cell? a = some v := (hb.cell (World.block_lt_of_cell? W a h)).trans h
theorem find1_calls (p q : ByteArray) (v : Value) (hv : v.oneCell' = true) (w : World) : Calls Tryz.prog 81 #[.agg #[.string p, v], .string q] w fun e w' => e = .returned (.int .i64 (cmpP p q)) ∧ Below w.heap.size w w' := by
 have HB := am (Below.refl w.heap.size w)
 have huR := Tryz.underlying63
 go_enter Tryz.func81, Tryz.ntmps81
 go_wp2_with (first
  | ((with_reducible refine gtD 2 ?_); refine xBx 2 63 #[.string p, v] ?_; intro g hg w1 hbox hb; have BK := am hbox; replace HB := am (sTx HB.out hb); clear hb hbox hg; obtain ⟨b0, b1, b2, b3⟩ := bxB BK)
  | ((with_reducible refine gtC 79 ?_); refine xCz 8 Tryz.func79 (octet_Cmp.calls p q (cmpP p q) _ (cmpP_eq p q)) fun nd => ?_))
 go_ret
 exact ⟨rfl, eTx HB.out⟩
set_option maxRecDepth 100000 in
set_option maxHeartbeats 4000000 in
theorem bs_calls (A0 : Option Addr) (c0 : Nat) (l : List S63) (q : ByteArray) (w : World) (hr : Kd.C k63 w A0 l.length l) (hl : l.length ≤ 1000000000) :
  Calls Tryz.prog 80 #[.slice A0 l.length c0, .string q, .func (.func 81) #[] #[]] w fun e w' => e = .returned (.tuple #[.int .i64 (bsR l q : Int), .bool (hasR l q)]) ∧ Below w.heap.size w w' := by
 have HR0 := Aside0.mk hr
 have HL := Aside0.mk hl
 have HB := am (Below.refl w.heap.size w)
 have huE := Tryz.underlying63
 have hl63 : l.length ≤ 9223372036854775807 := by omega
 clear hr hl
 go_enter Tryz.func80, Tryz.ntmps80
 go_wp2
 go_loopg [9, 10] l.length (fun kq v9 v10 wr => ∃ (i j : Nat), v9 = .int .i64 (i : Int) ∧ v10 = .int .i64 (j : Int) ∧ i ≤ l.length ∧ j ≤ l.length ∧ Aside0 (j ≤ i + kq) ∧ Aside0 (bsGo l q kq i j = bsR l q) ∧ Aside0 (Below w.heap.size w wr))
 case atStart => exact ⟨0, l.length, rfl, rfl, by omega, by omega, ⟨by omega⟩, ⟨rfl⟩, HB⟩
 case round =>
  clear HB
  obtain ⟨i, j, rfl, rfl, hi, hj, HK, HE, HB⟩ := hrel
  by_cases hij : i < j
  case pos =>
   obtain ⟨h, hh⟩ : ∃ h, h = (i + j) / 2 := ⟨_, rfl⟩
   have hhl : h < l.length := by omega
   have hb1 := HL.out
   have hw : wrap64 (IntKind.u64.wrap (wrap64 ((i : Int) + (j : Int))) / 2) = (h : Int) := by
    have e1 : wrap64 ((i : Int) + (j : Int)) = (i : Int) + (j : Int) := by unfold wrap64; omega
    have e2 : IntKind.u64.wrap ((i : Int) + (j : Int)) = (i : Int) + (j : Int) := by rw [IntKind.wrap_u64]; omega
    rw [e1, e2, hh]
    unfold wrap64
    omega
   have hh0 := eq_true (show (0 : Int) ≤ (h : Int) by omega)
   have hhI := eq_true (show (h : Int) < (l.length : Int) by omega)
   have hhN := eq_true hhl
   have HIL : Aside0 (h < l.length) := ⟨hhl⟩
   have HH := Aside0.mk hh
   have HIJ := Aside0.mk hij
   have Hi := Aside0.mk hi
   have Hj := Aside0.mk hj
   have HHJ : Aside0 (i ≤ h ∧ h < j) := ⟨by omega⟩
   clear hh hhl hb1 hi hj
   have hijI : (i : Int) < (j : Int) := by have := HIJ.out; omega
   clear hij
   go_upto_region 5 with (fail)
   rw [hw]
   clear hw
   obtain ⟨ad, A1, c1, ead, hx0, hx1, -, -⟩ := at_T63 (Kd.C_below HR0.out HB.out) (h : Int) (by omega) (by have := HIL.out; omega)
   cases ead
   rw [Int.toNat_natCast] at hx0 hx1
   obtain ⟨xr, hxr⟩ : ∃ xr, xr = rd_T63 l (h : Int) := ⟨_, rfl⟩
   rw [← hxr] at hx0 hx1
   have HXE := Aside0.mk hxr
   clear hxr
   go_wp2_with (fail)
   refine (find1_calls xr.f0 q (.slice A1 xr.f1.length c1) rfl _).mono ?_
   rintro e w5 ⟨rfl, hb⟩
   replace HB := am (below_step HB.out hb)
   clear hb
   by_cases hc : cmpP xr.f0 q < 0
   ·have HCc := Aside0.mk hc
    have hd := decide_eq_true hc
    clear hc
    go_wp2
    go_roundg (gk - 1)
    case measure => have := HK.out; have := HIJ.out; omega
    case rel =>
     refine ⟨h + 1, j, by rw [show wrap64 ((h : Int) + 1) = ((h + 1 : Nat) : Int) by have := HIL.out; have := HL.out; unfold wrap64; omega], rfl, by have := HIL.out; omega, Hj.out, ⟨by have := HK.out; have := HHJ.out; omega⟩, ⟨?_⟩, HB⟩
     have he := HE.out
     obtain ⟨n, hn⟩ : ∃ n, gk = n + 1 := ⟨gk - 1, by have := HK.out; have := HIJ.out; omega⟩
     rw [hn, bsGo, if_pos HIJ.out, ← HH.out, if_pos (by rw [← HXE.out]; exact HCc.out)] at he
     rw [hn]; exact he
   ·have HCc := Aside0.mk hc
    have hd := decide_eq_false hc
    clear hc
    go_wp2
    go_roundg (gk - 1)
    case measure => have := HK.out; have := HIJ.out; omega
    case rel =>
     refine ⟨i, h, rfl, rfl, Hi.out, by have := HIL.out; omega, ⟨by have := HK.out; have := HHJ.out; omega⟩, ⟨?_⟩, HB⟩
     have he := HE.out
     obtain ⟨n, hn⟩ : ∃ n, gk = n + 1 := ⟨gk - 1, by have := HK.out; have := HIJ.out; omega⟩
     rw [hn, bsGo, if_pos HIJ.out, ← HH.out, if_neg (by rw [← HXE.out]; exact Int.not_lt.2 HCc.out)] at he
     rw [hn]; exact he
  case neg =>
   have hbs : bsR l q = i := by rw [← HE.out, bsGo_ge l q i j hij]
   have HBS := Aside0.mk hbs
   have hijI : ¬ ((i : Int) < (j : Int)) := by omega
   have Hi := Aside0.mk hi
   clear hbs hij hi hj HK HE
   by_cases hin : i < l.length
   case pos =>
    have HIL := Aside0.mk hin
    have hinI := eq_true (show (i : Int) < (l.length : Int) by omega)
    have hi0 := eq_true (show (0 : Int) ≤ (i : Int) by omega)
    have hiN := eq_true hin
    clear hin
    obtain ⟨ad, A1, c1, ead, hx0, hx1, -, -⟩ := at_T63 (Kd.C_below HR0.out HB.out) (i : Int) (by omega) (by have := HIL.out; omega)
    cases ead
    rw [Int.toNat_natCast] at hx0 hx1
    obtain ⟨xr, hxr⟩ : ∃ xr, xr = rd_T63 l (i : Int) := ⟨_, rfl⟩
    rw [← hxr] at hx0 hx1
    have HXE := Aside0.mk hxr
    clear hxr
    go_wp2_with (fail)
    refine (find1_calls xr.f0 q (.slice A1 xr.f1.length c1) rfl _).mono ?_
    rintro e w5 ⟨rfl, hb⟩
    replace HB := am (below_step HB.out hb)
    clear hb
    go_wp2
    go_ret2
    refine ⟨?_, HB.out⟩
    have e1 : hasR l q = (cmpP xr.f0 q == 0) := by
     unfold hasR
     rw [HBS.out, decide_eq_true HIL.out, Bool.true_and, ← HXE.out]
    rw [HBS.out, e1]
    rfl
   case neg =>
    have hinI : ¬ ((i : Int) < (l.length : Int)) := by omega
    have hil : i = l.length := by have := Hi.out; omega
    have HIL := Aside0.mk hin
    clear hin hil
    go_wp2
    go_ret2
    refine ⟨?_, HB.out⟩
    have e1 : hasR l q = false := by
     unfold hasR
     rw [HBS.out, decide_eq_false HIL.out, Bool.false_and]
    rw [HBS.out, e1]
    rfl
theorem tally_find.calls (A0 : Option Addr) (c0 : Nat) (l0 : List (S63)) (a1 : ByteArray) (r1 : Int) (r2 : Bool) (w : World) (hr0 : Kd.C k63 w A0 l0.length l0) (hc0 : l0.length ≤ c0) (h : tally_find.f l0 a1 = some (r1, r2)) :
  Calls Tryz.prog 53 #[.slice A0 l0.length c0, .string a1] w fun e w' => e = .returned (.tuple #[.int .i64 r1, .bool r2]) ∧ Below w.heap.size w w' := by
 unfold tally_find.f at h
 have HB := am (Below.refl w.heap.size w)
 replace h := ifN h
 obtain ⟨hl, h⟩ := h
 replace h := prB h
 obtain ⟨rfl, rfl⟩ := h
 have HR0 := am hr0
 have HL := am hl
 clear hr0 hc0 hl
 go_enter Tryz.func53, Tryz.ntmps53
 go_wp2_with (first
  | (go_at_call 80; refine (bs_calls _ _ l0 a1 _ HR0.out HL.out).mono ?_; rintro e w2 ⟨rfl, hb⟩; replace HB := am (below_step HB.out hb); clear hb))
 go_ret2
 exact ⟨rfl, HB.out⟩

end Go.Proofs.YtknmfmedklfepaaGreatDoor.P
