-- Written by this project's own program (wip/tools/hp.py), driving the kit's print; hand texts among it. Not trusted: Lean checks it.
-- half the indentation
import Derived.Test.YtjadpeahoaogcaaDoorP0
import Derived.Test.YtjadpeahoaogcaaDoorP8
import Derived.Test.YtjadpeahoaogcaaDoorP12
namespace Go.Proofs.YtjadpeahoaogcaaDoor.P
open Go.RowKit Go.Proofs.YtjadpeahoaogcaaDoorW.PrintWords Go.Proofs.YtjadpeahoaogcaaDoorW.PrintLast Go.Proofs.YtjadpeahoaogcaaDoorW.PrintMore
attribute [local go_sem] max2_int min2_int max_two min_two max_three min_three max_four min_four   -- for this text's walks alone
set_option linter.unusedVariables false
set_option linter.unusedSimpArgs false

/-! ### HAND version_Join -/
def numsGo : List ByteArray → Option Bool
 | [] => some true
 | n :: l => (number_May.f n).bind fun x => if x = true then numsGo l else some false
def joinGo (k : Nat) : List ByteArray → ByteArray → Bool → Option (ByteArray × Int)
 | [], s, _ => some (s, 0)
 | v :: l, s, first => (version_word.f k v).bind fun ok => if ok = true then (if s.size + v.size < 1000000000000 then joinGo k l (s ++ ((if first then ⟨#[45]⟩ else ⟨#[46]⟩ : ByteArray) ++ v)) false else none) else some (⟨#[]⟩, 1)
def joinHead (a b c : ByteArray) : ByteArray := ((((((⟨#[118]⟩ : ByteArray) ++ a) ++ (⟨#[46]⟩ : ByteArray)) ++ b) ++ (⟨#[46]⟩ : ByteArray)) ++ c)
def version_Join.f (k : Nat) (a0_0 : ByteArray) (a0_1 : ByteArray) (a0_2 : ByteArray) (l0_3 : List ByteArray) : Option (ByteArray × Int) :=
 (numsGo [a0_0, a0_1, a0_2]).bind fun ok => if ok = true then (if a0_0.size + a0_1.size + a0_2.size ≤ 100000000000 then joinGo k l0_3 (joinHead a0_0 a0_1 a0_2) true else none) else some (⟨#[]⟩, 1)
theorem joinGo_mono (k : Nat) : ∀ (l : List ByteArray) (s : ByteArray) (b : Bool), LeO (joinGo k l s b) (joinGo (k + 1) l s b)
 | [], s, b => LeO.refl _
 | v :: l, s, b => by
  unfold joinGo
  refine LeO.bind (version_word.mono _ _) (fun _ => ?_)
  refine LeO.ite ?_ (LeO.refl _)
  exact LeO.ite (joinGo_mono k l _ _) (LeO.refl _)
theorem version_Join.mono : ∀ a0_0 a0_1 a0_2 l0_3 k, LeO (version_Join.f k a0_0 a0_1 a0_2 l0_3) (version_Join.f (k + 1) a0_0 a0_1 a0_2 l0_3) := by
 intro a b c l k
 unfold version_Join.f
 refine LeO.bind (LeO.refl _) (fun _ => ?_)
 refine LeO.ite ?_ (LeO.refl _)
 exact LeO.ite (joinGo_mono k l _ _) (LeO.refl _)
set_option maxRecDepth 100000 in
set_option maxHeartbeats 4000000 in
theorem version_Join.calls (k : Nat) (a0_0 : ByteArray) (a0_1 : ByteArray) (a0_2 : ByteArray) (A0_3 : Option Addr) (c0_3 : Nat) (l0_3 : List ByteArray) (r1 : ByteArray) (r2 : Int) (w : World) (hr0_3 : Kd.C Kd.string w A0_3 l0_3.length l0_3) (hc0_3 : l0_3.length ≤ c0_3) (h : version_Join.f k a0_0 a0_1 a0_2 l0_3 = some (r1, r2)) :
  Calls Tryd.prog 20 #[.agg #[.string a0_0, .string a0_1, .string a0_2, .slice A0_3 l0_3.length c0_3]] w fun e w' => e = .returned (.tuple #[.string r1, .int .i64 r2]) ∧ Below w.heap.size w w' := by
 have hu36 := Tryd.underlying36
 have HR0 := Aside0.mk hr0_3
 have HC0 := Aside0.mk hc0_3
 clear hr0_3 hc0_3
 have HB := Aside0.mk (Below.refl w.heap.size w)
 unfold version_Join.f at h
 obtain ⟨ok, hok, h2⟩ := Option.bind_eq_some_iff.mp h
 have Hok := Aside0.mk hok
 have H := Aside0.mk h2
 clear hok h2 h
 go_enter Tryd.func20, Tryd.ntmps20
 go_wp2_with (first | ((with_reducible refine gate_dst (N := 1) rfl ?_); refine box_event ?hg (N := 1) ?hd (cs := #[.string a0_0, .string a0_1, .string a0_2, .slice A0_3 l0_3.length c0_3]) (t := 36) ?hr ?_; (case hd => rfl); (case hg => rfl); (case hr => first | (go_simp; done) | (go_simp; rfl)); intro gb hg w7 hbox hb; have n0_ := Aside0.mk (below_step (by repeat (first | (with_reducible first | exact HB.out | apply below_alloc | apply pw_below_drewN | apply below_drew1) | exact HB.out)) hb); have n1_ := Aside0.mk hbox; have n2_ := Aside0.mk ((by rw [hg]; exact (below_size (by repeat (first | (with_reducible first | exact HB.out | apply below_alloc | apply pw_below_drewN | apply below_drew1) | exact HB.out))) : w.heap.size ≤ gb)); clear HB; have HB := n0_; have BK := n1_; have GW := n2_; clear n0_ n1_ n2_; clear hb hbox hg; have hcz0 : w7.cell? ⟨gb, 0, none⟩ = some (.string a0_0) := (blk_cell BK.out 0).trans rfl; have hcz1 : w7.cell? ⟨gb, 1, none⟩ = some (.string a0_1) := (blk_cell BK.out 1).trans rfl; have hcz2 : w7.cell? ⟨gb, 2, none⟩ = some (.string a0_2) := (blk_cell BK.out 2).trans rfl))
 clear hcz0 hcz1 hcz2
 go_loopw [16] (fun v16 wr => ∃ j : Nat, j ≤ 3 ∧ v16 = .int .i64 j ∧ Aside0 (numsGo ([a0_0, a0_1, a0_2].drop j) = some ok) ∧ Aside0 (wr.heap[gb]? = some (.cells #[.string a0_0, .string a0_1, .string a0_2, (.slice A0_3 l0_3.length c0_3)] 36 (0, 0))) ∧ Aside0 (Below w.heap.size w wr)) (fun v16 _ => 3 - (intOf v16).toNat)
 case atStart => exact ⟨0, by omega, rfl, Hok, ⟨by (with_reducible repeat (first | refine blk_drewN ?_ _ | refine blk_drew ?_ | refine blk_alloc ?_ _)); exact BK.out⟩, ⟨by repeat (first | (with_reducible first | exact HB.out | apply below_alloc | apply pw_below_drewN | apply below_drew1) | exact HB.out)⟩⟩
 case round =>
  clear HB BK Hok
  obtain ⟨j, hj, rfl, hn, BK, HB⟩ := hrel
  by_cases h3 : j = 3
  ·subst h3
   obtain rfl : ok = true := (Option.some.inj hn.out).symm
   clear hn hj
   have h := H.out
   rw [if_pos rfl] at h
   by_cases hsz : a0_0.size + a0_1.size + a0_2.size ≤ 100000000000
   case neg => rw [if_neg hsz] at h; cases h
   rw [if_pos hsz] at h
   have H' := Aside0.mk h
   clear h H
   have hcz0 : wr.cell? ⟨gb, 0, none⟩ = some (.string a0_0) := (blk_cell BK.out 0).trans rfl
   have hcz1 : wr.cell? ⟨gb, 1, none⟩ = some (.string a0_1) := (blk_cell BK.out 1).trans rfl
   have hcz2 : wr.cell? ⟨gb, 2, none⟩ = some (.string a0_2) := (blk_cell BK.out 2).trans rfl
   have hcz3 : wr.cell? ⟨gb, 3, none⟩ = some (.slice A0_3 l0_3.length c0_3) := (blk_cell BK.out 3).trans rfl
   have f1 : (9223372036854775807 < 1 + a0_0.size) = False := eq_false (by omega)
   have f2 : (9223372036854775807 < 1 + a0_0.size + 1) = False := eq_false (by omega)
   have f3 : (9223372036854775807 < 1 + a0_0.size + 1 + a0_1.size) = False := eq_false (by omega)
   have f4 : (9223372036854775807 < 1 + a0_0.size + 1 + a0_1.size + 1) = False := eq_false (by omega)
   have f5 : (9223372036854775807 < 1 + a0_0.size + 1 + a0_1.size + 1 + a0_2.size) = False := eq_false (by omega)
   clear hsz
   go_wp2
   go_loopw [6, 37] (fun v6 v37 wr => ∃ (i : Nat) (iv : Int) (s : ByteArray), i ≤ l0_3.length ∧ iv = (i : Int) ∧ v37 = .int .i64 iv ∧ v6 = .string s ∧ Aside0 (joinGo k (l0_3.drop i) s (decide (i = 0)) = some (r1, r2)) ∧ Aside0 (Below w.heap.size w wr)) (fun _ v37 _ => l0_3.length - (intOf v37).toNat)
   case atStart => exact ⟨0, 0, _, by omega, rfl, rfl, rfl, H', HB⟩
   case round =>
    clear f1 f2 f3 f4 f5 HB H' BK hcz0 hcz1 hcz2 hcz3
    obtain ⟨i, iv, s, hi, hiv, rfl, rfl, hj, HB⟩ := hrel
    by_cases hil : i < l0_3.length
    ·have p0 : (0 : Int) ≤ iv := by omega
     have q0 : iv < (l0_3.length : Int) := by omega
     obtain ⟨ad, ead, hx⟩ := Kd.at_string (Kd.C_below HR0.out HB.out) iv p0 q0
     cases ead
     have hrd : rdOf ByteArray.empty l0_3 iv = l0_3[i] := by rw [hiv]; simp [rdOf, List.getD_eq_getElem?_getD, hil]
     obtain ⟨v, hv⟩ : ∃ v, v = l0_3[i] := ⟨_, rfl⟩
     rw [hrd, ← hv] at hx
     have hjo := hj.out
     rw [List.drop_eq_getElem_cons hil, ← hv, joinGo] at hjo
     obtain ⟨ow, how, hjo⟩ := Option.bind_eq_some_iff.mp hjo
     have How := Aside0.mk how
     have hlen : l0_3.length ≤ 9223372036854775807 := HR0.out.2.1
     have Hiv := Lib.hid hiv
     clear hv hrd how hj hiv
     replace p0 := eq_true p0
     replace q0 := eq_true q0
     cases ow with
     | false =>
      rw [if_neg (by decide)] at hjo
      have hr := Option.some.inj hjo
      obtain ⟨rfl, rfl⟩ := Prod.mk.inj hr
      clear hjo hr
      go_wp2_with (go_at_call 33; refine (version_word.calls k v false _ How.out).mono ?_; rintro e w2 ⟨rfl, hb⟩)
      go_ret2
      exact ⟨rfl, below_step HB.out hb⟩
     | true =>
      rw [if_pos rfl] at hjo
      by_cases hsz : s.size + v.size < 1000000000000
      case neg => rw [if_neg hsz] at hjo; cases hjo
      rw [if_pos hsz] at hjo
      have Hjo := Aside0.mk hjo
      have g1 : (9223372036854775807 < 1 + v.size) = False := eq_false (by omega)
      have g2 : (9223372036854775807 < s.size + (1 + v.size)) = False := eq_false (by omega)
      clear hjo hsz
      by_cases hi0 : i = 0
      ·have hi0b : (iv == 0) = true := beq_iff_eq.2 (by have := Hiv.out; omega)
       go_wp2_with (go_at_call 33; refine (version_word.calls k v true _ How.out).mono ?_; rintro e w2 ⟨rfl, hb⟩)
       refine ⟨?rel, ?measure⟩
       case measure =>
        show l0_3.length - (wrap64 (iv + 1)).toNat < l0_3.length - iv.toNat
        have := Hiv.out
        unfold wrap64
        omega
       case rel =>
        (repeat apply Exists.intro)
        refine ⟨⟨i + 1, wrap64 (iv + 1), _, by omega, by have := Hiv.out; unfold wrap64; omega, rfl, rfl, ⟨?_⟩, ⟨below_step HB.out hb⟩⟩, rfl⟩
        have h1 := Hjo.out
        rw [decide_eq_true hi0, if_pos rfl] at h1
        rw [decide_eq_false (by omega : ¬ i + 1 = 0)]
        exact h1
      ·have hi0b : (iv == 0) = false := beq_eq_false_iff_ne.2 (by have := Hiv.out; omega)
       go_wp2_with (go_at_call 33; refine (version_word.calls k v true _ How.out).mono ?_; rintro e w2 ⟨rfl, hb⟩)
       refine ⟨?rel, ?measure⟩
       case measure =>
        show l0_3.length - (wrap64 (iv + 1)).toNat < l0_3.length - iv.toNat
        have := Hiv.out
        unfold wrap64
        omega
       case rel =>
        (repeat apply Exists.intro)
        refine ⟨⟨i + 1, wrap64 (iv + 1), _, by omega, by have := Hiv.out; unfold wrap64; omega, rfl, rfl, ⟨?_⟩, ⟨below_step HB.out hb⟩⟩, rfl⟩
        have h1 := Hjo.out
        rw [decide_eq_false hi0, if_neg (by decide)] at h1
        rw [decide_eq_false (by omega : ¬ i + 1 = 0)]
        exact h1
    ·have hil' : ¬ (iv < (l0_3.length : Int)) := by omega
     have hjo := hj.out
     rw [List.drop_eq_nil_of_le (by omega)] at hjo
     have hr := Option.some.inj hjo
     obtain ⟨rfl, rfl⟩ := Prod.mk.inj hr
     clear hjo hr hj
     go_wp2
     go_ret2
     exact ⟨rfl, HB.out⟩
  ·have hjc : ∃ (n : ByteArray) (x : Bool), (∀ W, (Instr.index 49 (.agg #[.string a0_0, .string a0_1, .string a0_2]) (.int .i64 (j : Int))).run Tryd.prog W = .ok (.string n) W) ∧ number_May.f n = some x ∧ (x = true → numsGo ([a0_0, a0_1, a0_2].drop (j + 1)) = some ok) ∧ (x = false → ok = false) := by
    have hno := hn.out
    rcases (by omega : j = 0 ∨ j = 1 ∨ j = 2) with rfl | rfl | rfl
    all_goals
     simp only [List.drop_succ_cons, List.drop_zero, numsGo] at hno
     obtain ⟨x, hx, hno⟩ := Option.bind_eq_some_iff.mp hno
     refine ⟨_, x, fun W => ?_, hx, fun h => by rw [h, if_pos rfl] at hno; exact hno, fun h => by rw [h, if_neg (by decide)] at hno; exact (Option.some.inj hno).symm⟩
     unfold Instr.index
     simp [go_sem]
   obtain ⟨n, x, hix, hx, hgo, hstop⟩ := hjc
   have Hx := Aside0.mk hx
   have hj3 : ((j : Int) < 3) = True := eq_true (by omega)
   have hj3b : decide ((j : Int) < 3) = true := decide_eq_true (by omega)
   clear hx hn
   cases x with
   | false =>
    obtain rfl := hstop rfl
    have h := H.out
    rw [if_neg (by decide)] at h
    have hr := Option.some.inj h
    obtain ⟨rfl, rfl⟩ := Prod.mk.inj hr
    clear h hr H hgo hstop
    go_wp2_with (go_at_call 32; refine (number_May.calls n false _ Hx.out).mono ?_; rintro e w2 ⟨rfl, hb⟩)
    go_ret2
    exact ⟨rfl, below_step HB.out hb⟩
   | true =>
    have hgo' := Aside0.mk (hgo rfl)
    clear hgo hstop
    go_wp2_with (go_at_call 32; refine (number_May.calls n true _ Hx.out).mono ?_; rintro e w2 ⟨rfl, hb⟩)
    have hgl : gb < wr.heap.size := (Array.getElem?_eq_some_iff.1 BK.out).1
    refine ⟨⟨j + 1, by omega, by rw [Int.natCast_add]; rfl, hgo', ⟨by rw [hb.block gb hgl]; exact BK.out⟩, ⟨below_step HB.out hb⟩⟩, ?_⟩
    show 3 - ((j : Int) + 1).toNat < 3 - (j : Int).toNat
    omega

end Go.Proofs.YtjadpeahoaogcaaDoor.P
