-- Written by this project's own program (wip/tools/hp.py), driving the kit's print; hand texts among it. Not trusted: Lean checks it.
-- half the indentation
import Derived.Test.YtjadpeahoaogcaaDoorP0
import Derived.Test.YtjadpeahoaogcaaDoorP18
import Derived.Test.YtjadpeahoaogcaaDoorP26
namespace Go.Proofs.YtjadpeahoaogcaaDoor.P
open Go.RowKit Go.Proofs.YtjadpeahoaogcaaDoorW.PrintWords Go.Proofs.YtjadpeahoaogcaaDoorW.PrintLast Go.Proofs.YtjadpeahoaogcaaDoorW.PrintMore
attribute [local go_sem] max2_int min2_int max_two min_two max_three min_three max_four min_four   -- for this text's walks alone
set_option linter.unusedVariables false
set_option linter.unusedSimpArgs false

/-! ### graftwoodref03_Join: function 21 -/
def graftwoodref03_Join.l0 : Nat → ByteArray → Int → ByteArray → ByteArray → ByteArray → List ByteArray → Option (ByteArray × Int)
 | 0, _, _, _, _, _, _ => none
 | k + 1, x4, x5, x364000, x364001, x364002, x364003 => if x5 < (x364003.length : Int) then (if x5 = 0 then (if x4.size + 1 ≤ 9223372036854775807 then (if 0 ≤ x5 then (if (x4 ++ (⟨#[45]⟩ : ByteArray)).size + (rdOf ByteArray.empty x364003 x5).size ≤ 9223372036854775807 then (graftwoodref03_Join.l0 k ((x4 ++ (⟨#[45]⟩ : ByteArray)) ++ (rdOf ByteArray.empty x364003 x5)) (wrap64 (x5 + 1)) x364000 x364001 x364002 x364003) else (none)) else (none)) else (none)) else (if x4.size + 1 ≤ 9223372036854775807 then (if 0 ≤ x5 then (if (x4 ++ (⟨#[46]⟩ : ByteArray)).size + (rdOf ByteArray.empty x364003 x5).size ≤ 9223372036854775807 then (graftwoodref03_Join.l0 k ((x4 ++ (⟨#[46]⟩ : ByteArray)) ++ (rdOf ByteArray.empty x364003 x5)) (wrap64 (x5 + 1)) x364000 x364001 x364002 x364003) else (none)) else (none)) else (none))) else ((graftwoodref03_Split.f k x4).bind fun bt366 => (if bt366.2.2.2.2 = true then (if bt366.1.toList = x364000.toList then (if bt366.2.1.toList = x364001.toList then (if bt366.2.2.1.toList = x364002.toList then ((graftwoodref01_Same.f k bt366.2.2.2.1 x364003).bind fun t374 => (if t374 = true then (some (x4, 0)) else (some ((⟨#[]⟩ : ByteArray), 1)))) else (some ((⟨#[]⟩ : ByteArray), 1))) else (some ((⟨#[]⟩ : ByteArray), 1))) else (some ((⟨#[]⟩ : ByteArray), 1))) else (some ((⟨#[]⟩ : ByteArray), 1))))
def graftwoodref03_Join.f (k : Nat) (a0_0 : ByteArray) (a0_1 : ByteArray) (a0_2 : ByteArray) (l0_3 : List ByteArray) : Option (ByteArray × Int) := if 1 + a0_0.size ≤ 9223372036854775807 then (if ((⟨#[118]⟩ : ByteArray) ++ a0_0).size + 1 ≤ 9223372036854775807 then (if (((⟨#[118]⟩ : ByteArray) ++ a0_0) ++ (⟨#[46]⟩ : ByteArray)).size + a0_1.size ≤ 9223372036854775807 then (if ((((⟨#[118]⟩ : ByteArray) ++ a0_0) ++ (⟨#[46]⟩ : ByteArray)) ++ a0_1).size + 1 ≤ 9223372036854775807 then (if (((((⟨#[118]⟩ : ByteArray) ++ a0_0) ++ (⟨#[46]⟩ : ByteArray)) ++ a0_1) ++ (⟨#[46]⟩ : ByteArray)).size + a0_2.size ≤ 9223372036854775807 then (graftwoodref03_Join.l0 k ((((((⟨#[118]⟩ : ByteArray) ++ a0_0) ++ (⟨#[46]⟩ : ByteArray)) ++ a0_1) ++ (⟨#[46]⟩ : ByteArray)) ++ a0_2) 0 a0_0 a0_1 a0_2 l0_3) else (none)) else (none)) else (none)) else (none)) else (none)
theorem graftwoodref03_Join.mono_l : ∀ k, (∀ y0 y1 y2 y3 y4 y5, LeO (graftwoodref03_Join.l0 k y0 y1 y2 y3 y4 y5) (graftwoodref03_Join.l0 (k + 1) y0 y1 y2 y3 y4 y5))
 | 0 => fun _ _ _ _ _ _ r h => by simp [graftwoodref03_Join.l0] at h
 | k + 1 => by
  have ih0 := graftwoodref03_Join.mono_l k
  ·intro y0 y1 y2 y3 y4 y5
   unfold graftwoodref03_Join.l0
   repeat' first
   | (with_reducible exact ih0 _ _ _ _ _ _)
   | (with_reducible exact graftwoodref01_Same.mono _ _ _)
   | (with_reducible exact graftwoodref03_Split.mono _ _)
   | (with_reducible exact LeO.refl _)
   | (with_reducible exact LeO.none _)
   | (with_reducible refine LeO.ite ?_ ?_)
   | (with_reducible refine LeO.bind ?_ (fun _ => ?_))
   | exact ih0 _ _ _ _ _ _
   | exact graftwoodref01_Same.mono _ _ _
   | exact graftwoodref03_Split.mono _ _
   | exact LeO.none _
   | refine LeO.ite ?_ ?_
   | refine LeO.bind ?_ (fun _ => ?_)
theorem graftwoodref03_Join.mono : ∀ a0 a1 a2 a3 k, LeO (graftwoodref03_Join.f k a0 a1 a2 a3) (graftwoodref03_Join.f (k + 1) a0 a1 a2 a3) := by
 intro a0 a1 a2 a3 k
 have ih0 := graftwoodref03_Join.mono_l k
 unfold graftwoodref03_Join.f
 repeat' first
   | (with_reducible exact ih0 _ _ _ _ _ _)
   | (with_reducible exact graftwoodref01_Same.mono _ _ _)
   | (with_reducible exact graftwoodref03_Split.mono _ _)
   | (with_reducible exact LeO.refl _)
   | (with_reducible exact LeO.none _)
   | (with_reducible refine LeO.ite ?_ ?_)
   | (with_reducible refine LeO.bind ?_ (fun _ => ?_))
   | exact ih0 _ _ _ _ _ _
   | exact graftwoodref01_Same.mono _ _ _
   | exact graftwoodref03_Split.mono _ _
   | exact LeO.none _
   | refine LeO.ite ?_ ?_
   | refine LeO.bind ?_ (fun _ => ?_)
set_option maxHeartbeats 8000000 in
set_option maxRecDepth 100000 in
theorem graftwoodref03_Join.calls (k : Nat) (a0_0 : ByteArray) (a0_1 : ByteArray) (a0_2 : ByteArray) (A0_3 : Option Addr) (c0_3 : Nat) (l0_3 : List ByteArray) (r1 : ByteArray) (r2 : Int) (w : World) (hr0_3 : Kd.C Kd.string w A0_3 l0_3.length l0_3) (hc0_3 : l0_3.length ≤ c0_3) (h : graftwoodref03_Join.f k a0_0 a0_1 a0_2 l0_3 = some (r1, r2)) :
  Calls Tryd.prog 21 #[.agg #[.string a0_0, .string a0_1, .string a0_2, .slice A0_3 l0_3.length c0_3]] w fun e w' => e = .returned (.tuple #[.string r1, .int .i64 r2]) ∧ Below w.heap.size w w' := by
 have hu36 := Tryd.underlying36
 have HR0_3 := Aside0.mk hr0_3
 have HC0_3 := Aside0.mk hc0_3
 clear hr0_3 hc0_3
 have HB := Aside0.mk (Below.refl w.heap.size w)
 have H : (if 1 + a0_0.size ≤ 9223372036854775807 then (if ((⟨#[118]⟩ : ByteArray) ++ a0_0).size + 1 ≤ 9223372036854775807 then (if (((⟨#[118]⟩ : ByteArray) ++ a0_0) ++ (⟨#[46]⟩ : ByteArray)).size + a0_1.size ≤ 9223372036854775807 then (if ((((⟨#[118]⟩ : ByteArray) ++ a0_0) ++ (⟨#[46]⟩ : ByteArray)) ++ a0_1).size + 1 ≤ 9223372036854775807 then (if (((((⟨#[118]⟩ : ByteArray) ++ a0_0) ++ (⟨#[46]⟩ : ByteArray)) ++ a0_1) ++ (⟨#[46]⟩ : ByteArray)).size + a0_2.size ≤ 9223372036854775807 then (graftwoodref03_Join.l0 k ((((((⟨#[118]⟩ : ByteArray) ++ a0_0) ++ (⟨#[46]⟩ : ByteArray)) ++ a0_1) ++ (⟨#[46]⟩ : ByteArray)) ++ a0_2) 0 a0_0 a0_1 a0_2 l0_3) else (none)) else (none)) else (none)) else (none)) else (none)) = some (r1, r2) := h
 clear h
 by_cases c2 : 1 + a0_0.size ≤ 9223372036854775807
 ·rw [if_pos c2] at H
  have c2b0 := eq_true c2
  have c2b1 : decide (1 + a0_0.size ≤ 9223372036854775807) = true := decide_eq_true c2
  try have c2b2 : (9223372036854775807 < 1 + a0_0.size) = False := eq_false (Nat.not_lt.2 c2)
  by_cases c3 : ((⟨#[118]⟩ : ByteArray) ++ a0_0).size + 1 ≤ 9223372036854775807
  ·rw [if_pos c3] at H
   have c3b0 := eq_true c3
   have c3b1 : decide (((⟨#[118]⟩ : ByteArray) ++ a0_0).size + 1 ≤ 9223372036854775807) = true := decide_eq_true c3
   try have c3b2 : (9223372036854775807 < ((⟨#[118]⟩ : ByteArray) ++ a0_0).size + 1) = False := eq_false (Nat.not_lt.2 c3)
   (try (have c3n := eq_false (Nat.not_lt.2 c3); simp only [ByteArray.size_append, show (⟨#[118]⟩ : ByteArray).size = 1 from rfl] at c3n))
   by_cases c4 : (((⟨#[118]⟩ : ByteArray) ++ a0_0) ++ (⟨#[46]⟩ : ByteArray)).size + a0_1.size ≤ 9223372036854775807
   ·rw [if_pos c4] at H
    have c4b0 := eq_true c4
    have c4b1 : decide ((((⟨#[118]⟩ : ByteArray) ++ a0_0) ++ (⟨#[46]⟩ : ByteArray)).size + a0_1.size ≤ 9223372036854775807) = true := decide_eq_true c4
    try have c4b2 : (9223372036854775807 < (((⟨#[118]⟩ : ByteArray) ++ a0_0) ++ (⟨#[46]⟩ : ByteArray)).size + a0_1.size) = False := eq_false (Nat.not_lt.2 c4)
    (try (have c4n := eq_false (Nat.not_lt.2 c4); simp only [ByteArray.size_append, show (⟨#[118]⟩ : ByteArray).size = 1 from rfl, show (⟨#[46]⟩ : ByteArray).size = 1 from rfl] at c4n))
    by_cases c5 : ((((⟨#[118]⟩ : ByteArray) ++ a0_0) ++ (⟨#[46]⟩ : ByteArray)) ++ a0_1).size + 1 ≤ 9223372036854775807
    ·rw [if_pos c5] at H
     have c5b0 := eq_true c5
     have c5b1 : decide (((((⟨#[118]⟩ : ByteArray) ++ a0_0) ++ (⟨#[46]⟩ : ByteArray)) ++ a0_1).size + 1 ≤ 9223372036854775807) = true := decide_eq_true c5
     try have c5b2 : (9223372036854775807 < ((((⟨#[118]⟩ : ByteArray) ++ a0_0) ++ (⟨#[46]⟩ : ByteArray)) ++ a0_1).size + 1) = False := eq_false (Nat.not_lt.2 c5)
     (try (have c5n := eq_false (Nat.not_lt.2 c5); simp only [ByteArray.size_append, show (⟨#[118]⟩ : ByteArray).size = 1 from rfl, show (⟨#[46]⟩ : ByteArray).size = 1 from rfl] at c5n))
     by_cases c6 : (((((⟨#[118]⟩ : ByteArray) ++ a0_0) ++ (⟨#[46]⟩ : ByteArray)) ++ a0_1) ++ (⟨#[46]⟩ : ByteArray)).size + a0_2.size ≤ 9223372036854775807
     ·rw [if_pos c6] at H
      have c6b0 := eq_true c6
      have c6b1 : decide ((((((⟨#[118]⟩ : ByteArray) ++ a0_0) ++ (⟨#[46]⟩ : ByteArray)) ++ a0_1) ++ (⟨#[46]⟩ : ByteArray)).size + a0_2.size ≤ 9223372036854775807) = true := decide_eq_true c6
      try have c6b2 : (9223372036854775807 < (((((⟨#[118]⟩ : ByteArray) ++ a0_0) ++ (⟨#[46]⟩ : ByteArray)) ++ a0_1) ++ (⟨#[46]⟩ : ByteArray)).size + a0_2.size) = False := eq_false (Nat.not_lt.2 c6)
      (try (have c6n := eq_false (Nat.not_lt.2 c6); simp only [ByteArray.size_append, show (⟨#[118]⟩ : ByteArray).size = 1 from rfl, show (⟨#[46]⟩ : ByteArray).size = 1 from rfl] at c6n))
      have H' := Aside0.mk H
      clear H
      go_enter Tryd.func21, Tryd.ntmps21
      go_wp2_with (first | ((with_reducible refine gate_dst (N := 1) rfl ?_); refine box_event ?hg (N := 1) ?hd (cs := #[.string a0_0, .string a0_1, .string a0_2, .slice A0_3 l0_3.length c0_3]) (t := 36) ?hr ?_; (case hd => rfl); (case hg => rfl); (case hr => first | (go_simp; done) | (go_simp; rfl)); intro gb363 hg w7 hbox hb; have n0_ := Aside0.mk (below_step (by repeat (first | (with_reducible first | exact HB.out | apply below_alloc | apply pw_below_drewN | apply below_drew1) | exact HB.out)) hb); have n1_ := Aside0.mk (hbox); have n2_ := Aside0.mk ((by rw [hg]; exact (below_size (by repeat (first | (with_reducible first | exact HB.out | apply below_alloc | apply pw_below_drewN | apply below_drew1) | exact HB.out))) : w.heap.size ≤ gb363)); have n3_ := Aside0.mk ((by rw [hg]; exact (below_size (by repeat (first | (with_reducible first | exact HB.out | apply below_alloc | apply pw_below_drewN | apply below_drew1) | exact HB.out))) : w.heap.size ≤ gb363)); clear HB; have HB := n0_; have BK363 := n1_; have GW363 := n2_; have GE363 := n3_; clear n0_ n1_ n2_ n3_; clear hb hbox hg; have hcz8_0 : w7.cell? ⟨gb363, 0, none⟩ = some (.string a0_0) := (blk_cell BK363.out 0).trans rfl; have hcz8_1 : w7.cell? ⟨gb363, 1, none⟩ = some (.string a0_1) := (blk_cell BK363.out 1).trans rfl; have hcz8_2 : w7.cell? ⟨gb363, 2, none⟩ = some (.string a0_2) := (blk_cell BK363.out 2).trans rfl; have hcz8_3 : w7.cell? ⟨gb363, 3, none⟩ = some (.slice A0_3 l0_3.length c0_3) := (blk_cell BK363.out 3).trans rfl; have hfz8_0 := blk_frozen BK363.out 0; have hfz8_1 := blk_frozen BK363.out 1; have hfz8_2 := blk_frozen BK363.out 2; have hfz8_3 := blk_frozen BK363.out 3))
      go_loopg [4, 5] k (fun kq v4 v5 w' => ∃ (x4_1 : ByteArray) (x5_1 : Int), v4 = .string x4_1 ∧ v5 = .int .i64 x5_1 ∧ Aside0 (graftwoodref03_Join.l0 kq x4_1 x5_1 a0_0 a0_1 a0_2 l0_3 = some (r1, r2)) ∧ Aside0 (kq ≤ k) ∧ Aside0 (w'.heap[gb363]? = some (.cells #[.string a0_0, .string a0_1, .string a0_2, (.slice A0_3 l0_3.length c0_3)] 36 (0, 0))) ∧ Aside0 (Below w.heap.size w w'))
      case atStart => exact ⟨((((((⟨#[118]⟩ : ByteArray) ++ a0_0) ++ (⟨#[46]⟩ : ByteArray)) ++ a0_1) ++ (⟨#[46]⟩ : ByteArray)) ++ a0_2), (0), (by first | rfl | (simp; done) | (simp [*]; done)), (by first | rfl | (simp; done) | (simp [*]; done)), H', ⟨Nat.le_refl _⟩, ⟨by (with_reducible repeat (first | refine blk_drewN ?_ _ | refine blk_drew ?_ | refine blk_alloc ?_ _)); exact BK363.out⟩, ⟨by repeat (first | (with_reducible first | exact HB.out | apply below_alloc | apply pw_below_drewN | apply below_drew1 | refine below_set ?_ GE363.out) | exact HB.out)⟩⟩
      case round =>
       clear H'
       try clear c2
       try clear c2b0
       try clear c2b1
       try clear c2b2
       try clear p2
       try clear c3
       try clear c3b0
       try clear c3b1
       try clear c3b2
       try clear c4
       try clear c4b0
       try clear c4b1
       try clear c4b2
       try clear c5
       try clear c5b0
       try clear c5b1
       try clear c5b2
       try clear c6
       try clear c6b0
       try clear c6b1
       try clear c6b2
       try clear hcz8_0
       try clear hcz8_1
       try clear hcz8_2
       try clear hcz8_3
       try clear hfz8_0
       try clear hfz8_1
       try clear hfz8_2
       try clear hfz8_3
       obtain ⟨x4_1, x5_1, rfl, rfl, HA, HK1, BK363, HB⟩ := hrel
       cases gk with
       | zero => exact absurd HA.out (by simp [graftwoodref03_Join.l0])
       | succ k1 =>
        have H := HA.out
        clear HA
        simp only [graftwoodref03_Join.l0] at H
        by_cases c9 : x5_1 < (l0_3.length : Int)
        ·rw [if_pos c9] at H
         have c9b0 : decide (x5_1 < (l0_3.length : Int)) = true := decide_eq_true c9
         clear c9
         by_cases c10 : x5_1 = 0
         ·rw [if_pos c10] at H
          have c10b0 : (x5_1 == 0) = true := beq_iff_eq.mpr c10
          have c10b1 : (x5_1 != 0) = false := bne_eq_false_iff_eq.mpr c10
          clear c10
          by_cases c11 : x4_1.size + 1 ≤ 9223372036854775807
          ·rw [if_pos c11] at H
           have c11b0 := eq_true c11
           have c11b1 : decide (x4_1.size + 1 ≤ 9223372036854775807) = true := decide_eq_true c11
           try have c11b2 : (9223372036854775807 < x4_1.size + 1) = False := eq_false (Nat.not_lt.2 c11)
           by_cases c12 : 0 ≤ x5_1
           ·rw [if_pos c12] at H
            have c12b0 : decide (0 ≤ x5_1) = true := decide_eq_true c12
            clear c12
            by_cases c13 : (x4_1 ++ (⟨#[45]⟩ : ByteArray)).size + (rdOf ByteArray.empty l0_3 x5_1).size ≤ 9223372036854775807
            ·rw [if_pos c13] at H
             have c13b0 := eq_true c13
             have c13b1 : decide ((x4_1 ++ (⟨#[45]⟩ : ByteArray)).size + (rdOf ByteArray.empty l0_3 x5_1).size ≤ 9223372036854775807) = true := decide_eq_true c13
             try have c13b2 : (9223372036854775807 < (x4_1 ++ (⟨#[45]⟩ : ByteArray)).size + (rdOf ByteArray.empty l0_3 x5_1).size) = False := eq_false (Nat.not_lt.2 c13)
             (try (have c13n := eq_false (Nat.not_lt.2 c13); simp only [ByteArray.size_append, show (⟨#[45]⟩ : ByteArray).size = 1 from rfl] at c13n))
             have H' := Aside0.mk H
             clear H
             have hcz14_0 : wr.cell? ⟨gb363, 0, none⟩ = some (.string a0_0) := (blk_cell BK363.out 0).trans rfl
             have hcz14_1 : wr.cell? ⟨gb363, 1, none⟩ = some (.string a0_1) := (blk_cell BK363.out 1).trans rfl
             have hcz14_2 : wr.cell? ⟨gb363, 2, none⟩ = some (.string a0_2) := (blk_cell BK363.out 2).trans rfl
             have hcz14_3 : wr.cell? ⟨gb363, 3, none⟩ = some (.slice A0_3 l0_3.length c0_3) := (blk_cell BK363.out 3).trans rfl
             have hfz14_0 := blk_frozen BK363.out 0
             have hfz14_1 := blk_frozen BK363.out 1
             have hfz14_2 := blk_frozen BK363.out 2
             have hfz14_3 := blk_frozen BK363.out 3
             have p364 : 0 ≤ (x5_1 : Int) := of_decide_eq_true (by first | (with_reducible assumption) | assumption)
             have q364 : x5_1 < (l0_3.length : Int) := of_decide_eq_true (by first | (with_reducible assumption) | assumption)
             obtain ⟨ad364, e364, hx364_0⟩ := Kd.at_string HR0_3.out x5_1 p364 q364
             cases e364
             replace hx364_0 := (HB.out.cell (World.block_lt_of_cell? w _ hx364_0)).trans hx364_0
             replace p364 := eq_true p364
             replace q364 := eq_true q364
             go_wp2
             go_roundg k1
             case measure => have := HK1.out; omega
             case rel => exact ⟨((x4_1 ++ (⟨#[45]⟩ : ByteArray)) ++ (rdOf ByteArray.empty l0_3 x5_1)), (wrap64 (x5_1 + 1)), (by first | rfl | (simp; done) | (simp [*]; done)), (by first | rfl | (simp; done) | (simp [*]; done)), H', ⟨by have := HK1.out; omega⟩, ⟨by (with_reducible repeat (first | refine blk_drewN ?_ _ | refine blk_drew ?_ | refine blk_alloc ?_ _)); exact BK363.out⟩, ⟨by repeat (first | (with_reducible first | exact HB.out | apply below_alloc | apply pw_below_drewN | apply below_drew1 | refine below_set ?_ GE363.out) | exact HB.out)⟩⟩
            ·rw [if_neg c13] at H
             exact absurd H (by simp)
           ·rw [if_neg c12] at H
            exact absurd H (by simp)
          ·rw [if_neg c11] at H
           exact absurd H (by simp)
         ·rw [if_neg c10] at H
          have c10b0 : (x5_1 == 0) = false := beq_eq_false_iff_ne.mpr c10
          have c10b1 : (x5_1 != 0) = true := bne_iff_ne.mpr c10
          by_cases c15 : x4_1.size + 1 ≤ 9223372036854775807
          ·rw [if_pos c15] at H
           have c15b0 := eq_true c15
           have c15b1 : decide (x4_1.size + 1 ≤ 9223372036854775807) = true := decide_eq_true c15
           try have c15b2 : (9223372036854775807 < x4_1.size + 1) = False := eq_false (Nat.not_lt.2 c15)
           by_cases c16 : 0 ≤ x5_1
           ·rw [if_pos c16] at H
            have c16b0 : decide (0 ≤ x5_1) = true := decide_eq_true c16
            clear c16
            by_cases c17 : (x4_1 ++ (⟨#[46]⟩ : ByteArray)).size + (rdOf ByteArray.empty l0_3 x5_1).size ≤ 9223372036854775807
            ·rw [if_pos c17] at H
             have c17b0 := eq_true c17
             have c17b1 : decide ((x4_1 ++ (⟨#[46]⟩ : ByteArray)).size + (rdOf ByteArray.empty l0_3 x5_1).size ≤ 9223372036854775807) = true := decide_eq_true c17
             try have c17b2 : (9223372036854775807 < (x4_1 ++ (⟨#[46]⟩ : ByteArray)).size + (rdOf ByteArray.empty l0_3 x5_1).size) = False := eq_false (Nat.not_lt.2 c17)
             (try (have c17n := eq_false (Nat.not_lt.2 c17); simp only [ByteArray.size_append, show (⟨#[46]⟩ : ByteArray).size = 1 from rfl] at c17n))
             have H' := Aside0.mk H
             clear H
             have hcz18_0 : wr.cell? ⟨gb363, 0, none⟩ = some (.string a0_0) := (blk_cell BK363.out 0).trans rfl
             have hcz18_1 : wr.cell? ⟨gb363, 1, none⟩ = some (.string a0_1) := (blk_cell BK363.out 1).trans rfl
             have hcz18_2 : wr.cell? ⟨gb363, 2, none⟩ = some (.string a0_2) := (blk_cell BK363.out 2).trans rfl
             have hcz18_3 : wr.cell? ⟨gb363, 3, none⟩ = some (.slice A0_3 l0_3.length c0_3) := (blk_cell BK363.out 3).trans rfl
             have hfz18_0 := blk_frozen BK363.out 0
             have hfz18_1 := blk_frozen BK363.out 1
             have hfz18_2 := blk_frozen BK363.out 2
             have hfz18_3 := blk_frozen BK363.out 3
             have p365 : 0 ≤ (x5_1 : Int) := of_decide_eq_true (by first | (with_reducible assumption) | assumption)
             have q365 : x5_1 < (l0_3.length : Int) := of_decide_eq_true (by first | (with_reducible assumption) | assumption)
             obtain ⟨ad365, e365, hx365_0⟩ := Kd.at_string HR0_3.out x5_1 p365 q365
             cases e365
             replace hx365_0 := (HB.out.cell (World.block_lt_of_cell? w _ hx365_0)).trans hx365_0
             replace p365 := eq_true p365
             replace q365 := eq_true q365
             go_wp2
             go_roundg k1
             case measure => have := HK1.out; omega
             case rel => exact ⟨((x4_1 ++ (⟨#[46]⟩ : ByteArray)) ++ (rdOf ByteArray.empty l0_3 x5_1)), (wrap64 (x5_1 + 1)), (by first | rfl | (simp; done) | (simp [*]; done)), (by first | rfl | (simp; done) | (simp [*]; done)), H', ⟨by have := HK1.out; omega⟩, ⟨by (with_reducible repeat (first | refine blk_drewN ?_ _ | refine blk_drew ?_ | refine blk_alloc ?_ _)); exact BK363.out⟩, ⟨by repeat (first | (with_reducible first | exact HB.out | apply below_alloc | apply pw_below_drewN | apply below_drew1 | refine below_set ?_ GE363.out) | exact HB.out)⟩⟩
            ·rw [if_neg c17] at H
             exact absurd H (by simp)
           ·rw [if_neg c16] at H
            exact absurd H (by simp)
          ·rw [if_neg c15] at H
           exact absurd H (by simp)
        ·rw [if_neg c9] at H
         have c9b0 : decide (x5_1 < (l0_3.length : Int)) = false := decide_eq_false c9
         clear c9
         replace H := Option.bind_eq_some_iff.mp H
         obtain ⟨⟨t366, t367, t368, t369, t372⟩, A190, H⟩ := H
         replace H : (if t372 = true then (if t366.toList = a0_0.toList then (if t367.toList = a0_1.toList then (if t368.toList = a0_2.toList then ((graftwoodref01_Same.f k1 t369 l0_3).bind fun t374 => (if t374 = true then (some (x4_1, 0)) else (some ((⟨#[]⟩ : ByteArray), 1)))) else (some ((⟨#[]⟩ : ByteArray), 1))) else (some ((⟨#[]⟩ : ByteArray), 1))) else (some ((⟨#[]⟩ : ByteArray), 1))) else (some ((⟨#[]⟩ : ByteArray), 1))) = some (r1, r2) := H
         have A19 := Aside0.mk A190
         clear A190
         by_cases c20 : t372 = true
         ·subst c20
          have H1 : (if t366.toList = a0_0.toList then (if t367.toList = a0_1.toList then (if t368.toList = a0_2.toList then ((graftwoodref01_Same.f k1 t369 l0_3).bind fun t374 => (if t374 = true then (some (x4_1, 0)) else (some ((⟨#[]⟩ : ByteArray), 1)))) else (some ((⟨#[]⟩ : ByteArray), 1))) else (some ((⟨#[]⟩ : ByteArray), 1))) else (some ((⟨#[]⟩ : ByteArray), 1))) = some (r1, r2) := by rw [if_pos rfl] at H; exact H
          clear H
          have H := H1
          clear H1
          by_cases c21 : t366.toList = a0_0.toList
          ·rw [if_pos c21] at H
           have c21b0 : (t366.toList == a0_0.toList) = true := beq_iff_eq.mpr c21
           have c21b1 : (t366.toList != a0_0.toList) = false := bne_eq_false_iff_eq.mpr c21
           clear c21
           by_cases c22 : t367.toList = a0_1.toList
           ·rw [if_pos c22] at H
            have c22b0 : (t367.toList == a0_1.toList) = true := beq_iff_eq.mpr c22
            have c22b1 : (t367.toList != a0_1.toList) = false := bne_eq_false_iff_eq.mpr c22
            clear c22
            by_cases c23 : t368.toList = a0_2.toList
            ·rw [if_pos c23] at H
             have c23b0 : (t368.toList == a0_2.toList) = true := beq_iff_eq.mpr c23
             have c23b1 : (t368.toList != a0_2.toList) = false := bne_eq_false_iff_eq.mpr c23
             clear c23
             replace H := Option.bind_eq_some_iff.mp H
             obtain ⟨t374, A240, H⟩ := H
             replace H : (if t374 = true then (some (x4_1, 0)) else (some ((⟨#[]⟩ : ByteArray), 1))) = some (r1, r2) := H
             have A24 := Aside0.mk A240
             clear A240
             by_cases c25 : t374 = true
             ·subst c25
              have H1 : (some (x4_1, 0)) = some (r1, r2) := by rw [if_pos rfl] at H; exact H
              clear H
              have H := H1
              clear H1
              simp only [Option.some.injEq, Prod.mk.injEq] at H
              obtain ⟨rfl, rfl⟩ := H
              have hcz26_0 : wr.cell? ⟨gb363, 0, none⟩ = some (.string a0_0) := (blk_cell BK363.out 0).trans rfl
              have hcz26_1 : wr.cell? ⟨gb363, 1, none⟩ = some (.string a0_1) := (blk_cell BK363.out 1).trans rfl
              have hcz26_2 : wr.cell? ⟨gb363, 2, none⟩ = some (.string a0_2) := (blk_cell BK363.out 2).trans rfl
              have hcz26_3 : wr.cell? ⟨gb363, 3, none⟩ = some (.slice A0_3 l0_3.length c0_3) := (blk_cell BK363.out 3).trans rfl
              have hfz26_0 := blk_frozen BK363.out 0
              have hfz26_1 := blk_frozen BK363.out 1
              have hfz26_2 := blk_frozen BK363.out 2
              have hfz26_3 := blk_frozen BK363.out 3
              go_wp2_with (first | ((with_reducible refine gate_callee (f := 19) rfl ?_); refine goesL_ (some 41) rfl rfl Tryd.func19 (by kernel_rfl) rfl #[.string x4_1] rfl (by (try simp only [List.map_toArray, List.map_cons, List.map_nil]); first | done | rfl | (simp only [List.length_drop, List.length_take]; rfl)) ?_; (with_reducible refine (graftwoodref03_Split.calls k1 x4_1 t366 t367 t368 t369 true _ A19.out).mono ?_); rintro e w27 ⟨v370, rfl, ho0, hb⟩; refine ⟨_, rfl, ?_⟩; have n0_ := Aside0.mk (Kd.R_lower ho0 (below_size (by repeat (first | (with_reducible first | exact HB.out | apply below_alloc | apply pw_below_drewN | apply below_drew1 | refine below_set ?_ GE363.out) | exact HB.out)))); have n1_ := Aside0.mk (blk_below (g := gb363) (o := .cells #[.string a0_0, .string a0_1, .string a0_2, .slice A0_3 l0_3.length c0_3] 36 (0, 0)) (by (with_reducible repeat (first | refine blk_drewN ?_ _ | refine blk_drew ?_ | refine blk_alloc ?_ _)); exact BK363.out) hb); have n2_ := Aside0.mk (below_step (by repeat (first | (with_reducible first | exact HB.out | apply below_alloc | apply pw_below_drewN | apply below_drew1 | refine below_set ?_ GE363.out) | exact HB.out)) hb); clear BK363; clear HB; have HO371 := n0_; have BK363 := n1_; have HB := n2_; clear n0_ n1_ n2_; (try clear hb); (try clear hb2); (try clear hk); (try clear hi); (try clear ho0)) | ((with_reducible refine gate_dst (N := 6) rfl ?_); refine box_event ?hg (N := 6) ?hd (cs := #[.string (⟨#[]⟩ : ByteArray), .string (⟨#[]⟩ : ByteArray), .string (⟨#[]⟩ : ByteArray), .slice none 0 0]) (t := 36) ?hr ?_; (case hd => rfl); (case hg => rfl); (case hr => first | (go_simp; done) | (go_simp; rfl)); intro gb373 hg w28 hbox hb; have n0_ := Aside0.mk (Kd.R_below (by (with_reducible repeat (first | apply Kd.R_alloc | apply Kd.R_drewN | apply Kd.R_drew)); exact HO371.out) hb); have n1_ := Aside0.mk (blk_below (g := gb363) (o := .cells #[.string a0_0, .string a0_1, .string a0_2, .slice A0_3 l0_3.length c0_3] 36 (0, 0)) (by (with_reducible repeat (first | refine blk_drewN ?_ _ | refine blk_drew ?_ | refine blk_alloc ?_ _)); exact BK363.out) hb); have n2_ := Aside0.mk (below_step (by repeat (first | (with_reducible first | exact HB.out | apply below_alloc | apply pw_below_drewN | apply below_drew1 | refine below_set ?_ GE363.out) | exact HB.out)) hb); have n3_ := Aside0.mk (hbox); have n4_ := Aside0.mk ((by rw [hg]; exact (below_size (by repeat (first | (with_reducible first | exact HB.out | apply below_alloc | apply pw_below_drewN | apply below_drew1 | refine below_set ?_ GE363.out) | exact HB.out))) : w.heap.size ≤ gb373)); have n5_ := Aside0.mk ((by rw [hg]; exact (below_size (by repeat (first | (with_reducible first | exact HB.out | apply below_alloc | apply pw_below_drewN | apply below_drew1 | refine below_set ?_ GE363.out) | exact HB.out))) : w.heap.size ≤ gb373)); have n6_ := Aside0.mk ((by rw [hg]; exact Nat.ne_of_lt (blk_lt (g := gb363) (o := .cells #[.string a0_0, .string a0_1, .string a0_2, .slice A0_3 l0_3.length c0_3] 36 (0, 0)) (by (with_reducible repeat (first | refine blk_drewN ?_ _ | refine blk_drew ?_ | refine blk_alloc ?_ _)); exact BK363.out)) : gb363 ≠ gb373)); have n7_ := Aside0.mk ((by rw [hg]; exact Nat.ne_of_gt (blk_lt (g := gb363) (o := .cells #[.string a0_0, .string a0_1, .string a0_2, .slice A0_3 l0_3.length c0_3] 36 (0, 0)) (by (with_reducible repeat (first | refine blk_drewN ?_ _ | refine blk_drew ?_ | refine blk_alloc ?_ _)); exact BK363.out)) : gb373 ≠ gb363)); clear HO371; clear BK363; clear HB; have HO371 := n0_; have BK363 := n1_; have HB := n2_; have BK373 := n3_; have GW373 := n4_; have GE373 := n5_; have NB363_373 := n6_; have NB373_363 := n7_; clear n0_ n1_ n2_ n3_ n4_ n5_ n6_ n7_; clear hb hbox hg; have hnb29 := NB373_363.out; have hnc29 := NB363_373.out; have hcz30_0 : w28.cell? ⟨gb373, 0, none⟩ = some (.string (⟨#[]⟩ : ByteArray)) := (blk_cell BK373.out 0).trans rfl; have hcz30_1 : w28.cell? ⟨gb373, 1, none⟩ = some (.string (⟨#[]⟩ : ByteArray)) := (blk_cell BK373.out 1).trans rfl; have hcz30_2 : w28.cell? ⟨gb373, 2, none⟩ = some (.string (⟨#[]⟩ : ByteArray)) := (blk_cell BK373.out 2).trans rfl; have hcz30_3 : w28.cell? ⟨gb373, 3, none⟩ = some (.slice none 0 0) := (blk_cell BK373.out 3).trans rfl; have hfz30_0 := blk_frozen BK373.out 0; have hfz30_1 := blk_frozen BK373.out 1; have hfz30_2 := blk_frozen BK373.out 2; have hfz30_3 := blk_frozen BK373.out 3; obtain ⟨Ao31, co31, eo31⟩ := Kd.R_slice HO371.out; subst eo31; have hcz32_0 : w28.cell? ⟨gb363, 0, none⟩ = some (.string a0_0) := (blk_cell BK363.out 0).trans rfl; have hcz32_1 : w28.cell? ⟨gb363, 1, none⟩ = some (.string a0_1) := (blk_cell BK363.out 1).trans rfl; have hcz32_2 : w28.cell? ⟨gb363, 2, none⟩ = some (.string a0_2) := (blk_cell BK363.out 2).trans rfl; have hcz32_3 : w28.cell? ⟨gb363, 3, none⟩ = some (.slice A0_3 l0_3.length c0_3) := (blk_cell BK363.out 3).trans rfl; have hfz32_0 := blk_frozen BK363.out 0; have hfz32_1 := blk_frozen BK363.out 1; have hfz32_2 := blk_frozen BK363.out 2; have hfz32_3 := blk_frozen BK363.out 3) | (go_at_call 37; (with_reducible refine (graftwoodref01_Same.calls k1 _ _ t369 _ _ l0_3 true _ ?side1 ?side2 ?side3 ?side4 A24.out).mono ?_); (case side1 => refine (Kd.R_reads' (e := 9) (base := w.heap.size) (ok := fun k_ => True) (n := t369.length) (c := co31) ?_).2.2; exact (by (with_reducible repeat (first | apply Kd.R_alloc | apply Kd.R_drewN | apply Kd.R_drew)); exact (Kd.R_mono (Kd.R_far (p := ⟨gb373, 3, none⟩) (Kd.R_far (p := ⟨gb373, 2, none⟩) (Kd.R_far (p := ⟨gb373, 1, none⟩) (Kd.R_far (p := ⟨gb373, 0, none⟩) (Kd.R_types HO371.out BK373.out (by decide)) (fun _ hk => hk.2) (.string t366)) (fun _ hk => hk.2) (.string t367)) (fun _ hk => hk.2) (.string t368)) (fun _ hk => hk.2) (.slice Ao31 t369.length co31)) (fun _ h_ => h_.1)))); (case side2 => exact (Kd.R_reads' HO371.out).2.1); (case side3 => exact Kd.C_below HR0_3.out (by repeat (first | (with_reducible first | exact HB.out | apply below_alloc | apply pw_below_drewN | apply below_drew1 | refine below_set ?_ GE363.out | refine below_set ?_ GE373.out) | exact HB.out))); (case side4 => exact HC0_3.out); rintro e w' ⟨rfl, ⟨nd, rfl⟩⟩))
              go_ret2
              exact ⟨by first | rfl | (simp [errW_none, errW_some] <;> rfl) | (simp [*, errW_none, errW_some] <;> rfl), by repeat (first | (with_reducible first | exact HB.out | apply below_alloc | apply pw_below_drewN | apply below_drew1 | refine below_set ?_ GE363.out | refine below_set ?_ GE373.out) | exact HB.out)⟩
             ·replace c25 := Bool.eq_false_iff.mpr c25
              subst c25
              have H1 : (some ((⟨#[]⟩ : ByteArray), 1)) = some (r1, r2) := by rw [if_neg (show ¬ (false = true) by decide)] at H; exact H
              clear H
              have H := H1
              clear H1
              simp only [Option.some.injEq, Prod.mk.injEq] at H
              obtain ⟨rfl, rfl⟩ := H
              have hcz33_0 : wr.cell? ⟨gb363, 0, none⟩ = some (.string a0_0) := (blk_cell BK363.out 0).trans rfl
              have hcz33_1 : wr.cell? ⟨gb363, 1, none⟩ = some (.string a0_1) := (blk_cell BK363.out 1).trans rfl
              have hcz33_2 : wr.cell? ⟨gb363, 2, none⟩ = some (.string a0_2) := (blk_cell BK363.out 2).trans rfl
              have hcz33_3 : wr.cell? ⟨gb363, 3, none⟩ = some (.slice A0_3 l0_3.length c0_3) := (blk_cell BK363.out 3).trans rfl
              have hfz33_0 := blk_frozen BK363.out 0
              have hfz33_1 := blk_frozen BK363.out 1
              have hfz33_2 := blk_frozen BK363.out 2
              have hfz33_3 := blk_frozen BK363.out 3
              go_wp2_with (first | ((with_reducible refine gate_callee (f := 19) rfl ?_); refine goesL_ (some 41) rfl rfl Tryd.func19 (by kernel_rfl) rfl #[.string x4_1] rfl (by (try simp only [List.map_toArray, List.map_cons, List.map_nil]); first | done | rfl | (simp only [List.length_drop, List.length_take]; rfl)) ?_; (with_reducible refine (graftwoodref03_Split.calls k1 x4_1 t366 t367 t368 t369 true _ A19.out).mono ?_); rintro e w34 ⟨v370, rfl, ho0, hb⟩; refine ⟨_, rfl, ?_⟩; have n0_ := Aside0.mk (Kd.R_lower ho0 (below_size (by repeat (first | (with_reducible first | exact HB.out | apply below_alloc | apply pw_below_drewN | apply below_drew1 | refine below_set ?_ GE363.out) | exact HB.out)))); have n1_ := Aside0.mk (blk_below (g := gb363) (o := .cells #[.string a0_0, .string a0_1, .string a0_2, .slice A0_3 l0_3.length c0_3] 36 (0, 0)) (by (with_reducible repeat (first | refine blk_drewN ?_ _ | refine blk_drew ?_ | refine blk_alloc ?_ _)); exact BK363.out) hb); have n2_ := Aside0.mk (below_step (by repeat (first | (with_reducible first | exact HB.out | apply below_alloc | apply pw_below_drewN | apply below_drew1 | refine below_set ?_ GE363.out) | exact HB.out)) hb); clear BK363; clear HB; have HO371 := n0_; have BK363 := n1_; have HB := n2_; clear n0_ n1_ n2_; (try clear hb); (try clear hb2); (try clear hk); (try clear hi); (try clear ho0)) | ((with_reducible refine gate_dst (N := 6) rfl ?_); refine box_event ?hg (N := 6) ?hd (cs := #[.string (⟨#[]⟩ : ByteArray), .string (⟨#[]⟩ : ByteArray), .string (⟨#[]⟩ : ByteArray), .slice none 0 0]) (t := 36) ?hr ?_; (case hd => rfl); (case hg => rfl); (case hr => first | (go_simp; done) | (go_simp; rfl)); intro gb373 hg w35 hbox hb; have n0_ := Aside0.mk (Kd.R_below (by (with_reducible repeat (first | apply Kd.R_alloc | apply Kd.R_drewN | apply Kd.R_drew)); exact HO371.out) hb); have n1_ := Aside0.mk (blk_below (g := gb363) (o := .cells #[.string a0_0, .string a0_1, .string a0_2, .slice A0_3 l0_3.length c0_3] 36 (0, 0)) (by (with_reducible repeat (first | refine blk_drewN ?_ _ | refine blk_drew ?_ | refine blk_alloc ?_ _)); exact BK363.out) hb); have n2_ := Aside0.mk (below_step (by repeat (first | (with_reducible first | exact HB.out | apply below_alloc | apply pw_below_drewN | apply below_drew1 | refine below_set ?_ GE363.out) | exact HB.out)) hb); have n3_ := Aside0.mk (hbox); have n4_ := Aside0.mk ((by rw [hg]; exact (below_size (by repeat (first | (with_reducible first | exact HB.out | apply below_alloc | apply pw_below_drewN | apply below_drew1 | refine below_set ?_ GE363.out) | exact HB.out))) : w.heap.size ≤ gb373)); have n5_ := Aside0.mk ((by rw [hg]; exact (below_size (by repeat (first | (with_reducible first | exact HB.out | apply below_alloc | apply pw_below_drewN | apply below_drew1 | refine below_set ?_ GE363.out) | exact HB.out))) : w.heap.size ≤ gb373)); have n6_ := Aside0.mk ((by rw [hg]; exact Nat.ne_of_lt (blk_lt (g := gb363) (o := .cells #[.string a0_0, .string a0_1, .string a0_2, .slice A0_3 l0_3.length c0_3] 36 (0, 0)) (by (with_reducible repeat (first | refine blk_drewN ?_ _ | refine blk_drew ?_ | refine blk_alloc ?_ _)); exact BK363.out)) : gb363 ≠ gb373)); have n7_ := Aside0.mk ((by rw [hg]; exact Nat.ne_of_gt (blk_lt (g := gb363) (o := .cells #[.string a0_0, .string a0_1, .string a0_2, .slice A0_3 l0_3.length c0_3] 36 (0, 0)) (by (with_reducible repeat (first | refine blk_drewN ?_ _ | refine blk_drew ?_ | refine blk_alloc ?_ _)); exact BK363.out)) : gb373 ≠ gb363)); clear HO371; clear BK363; clear HB; have HO371 := n0_; have BK363 := n1_; have HB := n2_; have BK373 := n3_; have GW373 := n4_; have GE373 := n5_; have NB363_373 := n6_; have NB373_363 := n7_; clear n0_ n1_ n2_ n3_ n4_ n5_ n6_ n7_; clear hb hbox hg; have hnb36 := NB373_363.out; have hnc36 := NB363_373.out; have hcz37_0 : w35.cell? ⟨gb373, 0, none⟩ = some (.string (⟨#[]⟩ : ByteArray)) := (blk_cell BK373.out 0).trans rfl; have hcz37_1 : w35.cell? ⟨gb373, 1, none⟩ = some (.string (⟨#[]⟩ : ByteArray)) := (blk_cell BK373.out 1).trans rfl; have hcz37_2 : w35.cell? ⟨gb373, 2, none⟩ = some (.string (⟨#[]⟩ : ByteArray)) := (blk_cell BK373.out 2).trans rfl; have hcz37_3 : w35.cell? ⟨gb373, 3, none⟩ = some (.slice none 0 0) := (blk_cell BK373.out 3).trans rfl; have hfz37_0 := blk_frozen BK373.out 0; have hfz37_1 := blk_frozen BK373.out 1; have hfz37_2 := blk_frozen BK373.out 2; have hfz37_3 := blk_frozen BK373.out 3; obtain ⟨Ao38, co38, eo38⟩ := Kd.R_slice HO371.out; subst eo38; have hcz39_0 : w35.cell? ⟨gb363, 0, none⟩ = some (.string a0_0) := (blk_cell BK363.out 0).trans rfl; have hcz39_1 : w35.cell? ⟨gb363, 1, none⟩ = some (.string a0_1) := (blk_cell BK363.out 1).trans rfl; have hcz39_2 : w35.cell? ⟨gb363, 2, none⟩ = some (.string a0_2) := (blk_cell BK363.out 2).trans rfl; have hcz39_3 : w35.cell? ⟨gb363, 3, none⟩ = some (.slice A0_3 l0_3.length c0_3) := (blk_cell BK363.out 3).trans rfl; have hfz39_0 := blk_frozen BK363.out 0; have hfz39_1 := blk_frozen BK363.out 1; have hfz39_2 := blk_frozen BK363.out 2; have hfz39_3 := blk_frozen BK363.out 3) | (go_at_call 37; (with_reducible refine (graftwoodref01_Same.calls k1 _ _ t369 _ _ l0_3 false _ ?side1 ?side2 ?side3 ?side4 A24.out).mono ?_); (case side1 => refine (Kd.R_reads' (e := 9) (base := w.heap.size) (ok := fun k_ => True) (n := t369.length) (c := co38) ?_).2.2; exact (by (with_reducible repeat (first | apply Kd.R_alloc | apply Kd.R_drewN | apply Kd.R_drew)); exact (Kd.R_mono (Kd.R_far (p := ⟨gb373, 3, none⟩) (Kd.R_far (p := ⟨gb373, 2, none⟩) (Kd.R_far (p := ⟨gb373, 1, none⟩) (Kd.R_far (p := ⟨gb373, 0, none⟩) (Kd.R_types HO371.out BK373.out (by decide)) (fun _ hk => hk.2) (.string t366)) (fun _ hk => hk.2) (.string t367)) (fun _ hk => hk.2) (.string t368)) (fun _ hk => hk.2) (.slice Ao38 t369.length co38)) (fun _ h_ => h_.1)))); (case side2 => exact (Kd.R_reads' HO371.out).2.1); (case side3 => exact Kd.C_below HR0_3.out (by repeat (first | (with_reducible first | exact HB.out | apply below_alloc | apply pw_below_drewN | apply below_drew1 | refine below_set ?_ GE363.out | refine below_set ?_ GE373.out) | exact HB.out))); (case side4 => exact HC0_3.out); rintro e w' ⟨rfl, ⟨nd, rfl⟩⟩))
              go_ret2
              exact ⟨by first | rfl | (simp [errW_none, errW_some] <;> rfl) | (simp [*, errW_none, errW_some] <;> rfl), by repeat (first | (with_reducible first | exact HB.out | apply below_alloc | apply pw_below_drewN | apply below_drew1 | refine below_set ?_ GE363.out | refine below_set ?_ GE373.out) | exact HB.out)⟩
            ·rw [if_neg c23] at H
             have c23b0 : (t368.toList == a0_2.toList) = false := beq_eq_false_iff_ne.mpr c23
             have c23b1 : (t368.toList != a0_2.toList) = true := bne_iff_ne.mpr c23
             simp only [Option.some.injEq, Prod.mk.injEq] at H
             obtain ⟨rfl, rfl⟩ := H
             have hcz40_0 : wr.cell? ⟨gb363, 0, none⟩ = some (.string a0_0) := (blk_cell BK363.out 0).trans rfl
             have hcz40_1 : wr.cell? ⟨gb363, 1, none⟩ = some (.string a0_1) := (blk_cell BK363.out 1).trans rfl
             have hcz40_2 : wr.cell? ⟨gb363, 2, none⟩ = some (.string a0_2) := (blk_cell BK363.out 2).trans rfl
             have hcz40_3 : wr.cell? ⟨gb363, 3, none⟩ = some (.slice A0_3 l0_3.length c0_3) := (blk_cell BK363.out 3).trans rfl
             have hfz40_0 := blk_frozen BK363.out 0
             have hfz40_1 := blk_frozen BK363.out 1
             have hfz40_2 := blk_frozen BK363.out 2
             have hfz40_3 := blk_frozen BK363.out 3
             go_wp2_with (first | ((with_reducible refine gate_callee (f := 19) rfl ?_); refine goesL_ (some 41) rfl rfl Tryd.func19 (by kernel_rfl) rfl #[.string x4_1] rfl (by (try simp only [List.map_toArray, List.map_cons, List.map_nil]); first | done | rfl | (simp only [List.length_drop, List.length_take]; rfl)) ?_; (with_reducible refine (graftwoodref03_Split.calls k1 x4_1 t366 t367 t368 t369 true _ A19.out).mono ?_); rintro e w41 ⟨v370, rfl, ho0, hb⟩; refine ⟨_, rfl, ?_⟩; have n0_ := Aside0.mk (Kd.R_lower ho0 (below_size (by repeat (first | (with_reducible first | exact HB.out | apply below_alloc | apply pw_below_drewN | apply below_drew1 | refine below_set ?_ GE363.out) | exact HB.out)))); have n1_ := Aside0.mk (blk_below (g := gb363) (o := .cells #[.string a0_0, .string a0_1, .string a0_2, .slice A0_3 l0_3.length c0_3] 36 (0, 0)) (by (with_reducible repeat (first | refine blk_drewN ?_ _ | refine blk_drew ?_ | refine blk_alloc ?_ _)); exact BK363.out) hb); have n2_ := Aside0.mk (below_step (by repeat (first | (with_reducible first | exact HB.out | apply below_alloc | apply pw_below_drewN | apply below_drew1 | refine below_set ?_ GE363.out) | exact HB.out)) hb); clear BK363; clear HB; have HO371 := n0_; have BK363 := n1_; have HB := n2_; clear n0_ n1_ n2_; (try clear hb); (try clear hb2); (try clear hk); (try clear hi); (try clear ho0)) | ((with_reducible refine gate_dst (N := 6) rfl ?_); refine box_event ?hg (N := 6) ?hd (cs := #[.string (⟨#[]⟩ : ByteArray), .string (⟨#[]⟩ : ByteArray), .string (⟨#[]⟩ : ByteArray), .slice none 0 0]) (t := 36) ?hr ?_; (case hd => rfl); (case hg => rfl); (case hr => first | (go_simp; done) | (go_simp; rfl)); intro gb373 hg w42 hbox hb; have n0_ := Aside0.mk (Kd.R_below (by (with_reducible repeat (first | apply Kd.R_alloc | apply Kd.R_drewN | apply Kd.R_drew)); exact HO371.out) hb); have n1_ := Aside0.mk (blk_below (g := gb363) (o := .cells #[.string a0_0, .string a0_1, .string a0_2, .slice A0_3 l0_3.length c0_3] 36 (0, 0)) (by (with_reducible repeat (first | refine blk_drewN ?_ _ | refine blk_drew ?_ | refine blk_alloc ?_ _)); exact BK363.out) hb); have n2_ := Aside0.mk (below_step (by repeat (first | (with_reducible first | exact HB.out | apply below_alloc | apply pw_below_drewN | apply below_drew1 | refine below_set ?_ GE363.out) | exact HB.out)) hb); have n3_ := Aside0.mk (hbox); have n4_ := Aside0.mk ((by rw [hg]; exact (below_size (by repeat (first | (with_reducible first | exact HB.out | apply below_alloc | apply pw_below_drewN | apply below_drew1 | refine below_set ?_ GE363.out) | exact HB.out))) : w.heap.size ≤ gb373)); have n5_ := Aside0.mk ((by rw [hg]; exact (below_size (by repeat (first | (with_reducible first | exact HB.out | apply below_alloc | apply pw_below_drewN | apply below_drew1 | refine below_set ?_ GE363.out) | exact HB.out))) : w.heap.size ≤ gb373)); have n6_ := Aside0.mk ((by rw [hg]; exact Nat.ne_of_lt (blk_lt (g := gb363) (o := .cells #[.string a0_0, .string a0_1, .string a0_2, .slice A0_3 l0_3.length c0_3] 36 (0, 0)) (by (with_reducible repeat (first | refine blk_drewN ?_ _ | refine blk_drew ?_ | refine blk_alloc ?_ _)); exact BK363.out)) : gb363 ≠ gb373)); have n7_ := Aside0.mk ((by rw [hg]; exact Nat.ne_of_gt (blk_lt (g := gb363) (o := .cells #[.string a0_0, .string a0_1, .string a0_2, .slice A0_3 l0_3.length c0_3] 36 (0, 0)) (by (with_reducible repeat (first | refine blk_drewN ?_ _ | refine blk_drew ?_ | refine blk_alloc ?_ _)); exact BK363.out)) : gb373 ≠ gb363)); clear HO371; clear BK363; clear HB; have HO371 := n0_; have BK363 := n1_; have HB := n2_; have BK373 := n3_; have GW373 := n4_; have GE373 := n5_; have NB363_373 := n6_; have NB373_363 := n7_; clear n0_ n1_ n2_ n3_ n4_ n5_ n6_ n7_; clear hb hbox hg; have hnb43 := NB373_363.out; have hnc43 := NB363_373.out; have hcz44_0 : w42.cell? ⟨gb373, 0, none⟩ = some (.string (⟨#[]⟩ : ByteArray)) := (blk_cell BK373.out 0).trans rfl; have hcz44_1 : w42.cell? ⟨gb373, 1, none⟩ = some (.string (⟨#[]⟩ : ByteArray)) := (blk_cell BK373.out 1).trans rfl; have hcz44_2 : w42.cell? ⟨gb373, 2, none⟩ = some (.string (⟨#[]⟩ : ByteArray)) := (blk_cell BK373.out 2).trans rfl; have hcz44_3 : w42.cell? ⟨gb373, 3, none⟩ = some (.slice none 0 0) := (blk_cell BK373.out 3).trans rfl; have hfz44_0 := blk_frozen BK373.out 0; have hfz44_1 := blk_frozen BK373.out 1; have hfz44_2 := blk_frozen BK373.out 2; have hfz44_3 := blk_frozen BK373.out 3; obtain ⟨Ao45, co45, eo45⟩ := Kd.R_slice HO371.out; subst eo45; have hcz46_0 : w42.cell? ⟨gb363, 0, none⟩ = some (.string a0_0) := (blk_cell BK363.out 0).trans rfl; have hcz46_1 : w42.cell? ⟨gb363, 1, none⟩ = some (.string a0_1) := (blk_cell BK363.out 1).trans rfl; have hcz46_2 : w42.cell? ⟨gb363, 2, none⟩ = some (.string a0_2) := (blk_cell BK363.out 2).trans rfl; have hcz46_3 : w42.cell? ⟨gb363, 3, none⟩ = some (.slice A0_3 l0_3.length c0_3) := (blk_cell BK363.out 3).trans rfl; have hfz46_0 := blk_frozen BK363.out 0; have hfz46_1 := blk_frozen BK363.out 1; have hfz46_2 := blk_frozen BK363.out 2; have hfz46_3 := blk_frozen BK363.out 3))
             go_ret2
             exact ⟨by first | rfl | (simp [errW_none, errW_some] <;> rfl) | (simp [*, errW_none, errW_some] <;> rfl), by repeat (first | (with_reducible first | exact HB.out | apply below_alloc | apply pw_below_drewN | apply below_drew1 | refine below_set ?_ GE363.out | refine below_set ?_ GE373.out) | exact HB.out)⟩
           ·rw [if_neg c22] at H
            have c22b0 : (t367.toList == a0_1.toList) = false := beq_eq_false_iff_ne.mpr c22
            have c22b1 : (t367.toList != a0_1.toList) = true := bne_iff_ne.mpr c22
            simp only [Option.some.injEq, Prod.mk.injEq] at H
            obtain ⟨rfl, rfl⟩ := H
            have hcz47_0 : wr.cell? ⟨gb363, 0, none⟩ = some (.string a0_0) := (blk_cell BK363.out 0).trans rfl
            have hcz47_1 : wr.cell? ⟨gb363, 1, none⟩ = some (.string a0_1) := (blk_cell BK363.out 1).trans rfl
            have hcz47_2 : wr.cell? ⟨gb363, 2, none⟩ = some (.string a0_2) := (blk_cell BK363.out 2).trans rfl
            have hcz47_3 : wr.cell? ⟨gb363, 3, none⟩ = some (.slice A0_3 l0_3.length c0_3) := (blk_cell BK363.out 3).trans rfl
            have hfz47_0 := blk_frozen BK363.out 0
            have hfz47_1 := blk_frozen BK363.out 1
            have hfz47_2 := blk_frozen BK363.out 2
            have hfz47_3 := blk_frozen BK363.out 3
            go_wp2_with (first | ((with_reducible refine gate_callee (f := 19) rfl ?_); refine goesL_ (some 41) rfl rfl Tryd.func19 (by kernel_rfl) rfl #[.string x4_1] rfl (by (try simp only [List.map_toArray, List.map_cons, List.map_nil]); first | done | rfl | (simp only [List.length_drop, List.length_take]; rfl)) ?_; (with_reducible refine (graftwoodref03_Split.calls k1 x4_1 t366 t367 t368 t369 true _ A19.out).mono ?_); rintro e w48 ⟨v370, rfl, ho0, hb⟩; refine ⟨_, rfl, ?_⟩; have n0_ := Aside0.mk (Kd.R_lower ho0 (below_size (by repeat (first | (with_reducible first | exact HB.out | apply below_alloc | apply pw_below_drewN | apply below_drew1 | refine below_set ?_ GE363.out) | exact HB.out)))); have n1_ := Aside0.mk (blk_below (g := gb363) (o := .cells #[.string a0_0, .string a0_1, .string a0_2, .slice A0_3 l0_3.length c0_3] 36 (0, 0)) (by (with_reducible repeat (first | refine blk_drewN ?_ _ | refine blk_drew ?_ | refine blk_alloc ?_ _)); exact BK363.out) hb); have n2_ := Aside0.mk (below_step (by repeat (first | (with_reducible first | exact HB.out | apply below_alloc | apply pw_below_drewN | apply below_drew1 | refine below_set ?_ GE363.out) | exact HB.out)) hb); clear BK363; clear HB; have HO371 := n0_; have BK363 := n1_; have HB := n2_; clear n0_ n1_ n2_; (try clear hb); (try clear hb2); (try clear hk); (try clear hi); (try clear ho0)) | ((with_reducible refine gate_dst (N := 6) rfl ?_); refine box_event ?hg (N := 6) ?hd (cs := #[.string (⟨#[]⟩ : ByteArray), .string (⟨#[]⟩ : ByteArray), .string (⟨#[]⟩ : ByteArray), .slice none 0 0]) (t := 36) ?hr ?_; (case hd => rfl); (case hg => rfl); (case hr => first | (go_simp; done) | (go_simp; rfl)); intro gb373 hg w49 hbox hb; have n0_ := Aside0.mk (Kd.R_below (by (with_reducible repeat (first | apply Kd.R_alloc | apply Kd.R_drewN | apply Kd.R_drew)); exact HO371.out) hb); have n1_ := Aside0.mk (blk_below (g := gb363) (o := .cells #[.string a0_0, .string a0_1, .string a0_2, .slice A0_3 l0_3.length c0_3] 36 (0, 0)) (by (with_reducible repeat (first | refine blk_drewN ?_ _ | refine blk_drew ?_ | refine blk_alloc ?_ _)); exact BK363.out) hb); have n2_ := Aside0.mk (below_step (by repeat (first | (with_reducible first | exact HB.out | apply below_alloc | apply pw_below_drewN | apply below_drew1 | refine below_set ?_ GE363.out) | exact HB.out)) hb); have n3_ := Aside0.mk (hbox); have n4_ := Aside0.mk ((by rw [hg]; exact (below_size (by repeat (first | (with_reducible first | exact HB.out | apply below_alloc | apply pw_below_drewN | apply below_drew1 | refine below_set ?_ GE363.out) | exact HB.out))) : w.heap.size ≤ gb373)); have n5_ := Aside0.mk ((by rw [hg]; exact (below_size (by repeat (first | (with_reducible first | exact HB.out | apply below_alloc | apply pw_below_drewN | apply below_drew1 | refine below_set ?_ GE363.out) | exact HB.out))) : w.heap.size ≤ gb373)); have n6_ := Aside0.mk ((by rw [hg]; exact Nat.ne_of_lt (blk_lt (g := gb363) (o := .cells #[.string a0_0, .string a0_1, .string a0_2, .slice A0_3 l0_3.length c0_3] 36 (0, 0)) (by (with_reducible repeat (first | refine blk_drewN ?_ _ | refine blk_drew ?_ | refine blk_alloc ?_ _)); exact BK363.out)) : gb363 ≠ gb373)); have n7_ := Aside0.mk ((by rw [hg]; exact Nat.ne_of_gt (blk_lt (g := gb363) (o := .cells #[.string a0_0, .string a0_1, .string a0_2, .slice A0_3 l0_3.length c0_3] 36 (0, 0)) (by (with_reducible repeat (first | refine blk_drewN ?_ _ | refine blk_drew ?_ | refine blk_alloc ?_ _)); exact BK363.out)) : gb373 ≠ gb363)); clear HO371; clear BK363; clear HB; have HO371 := n0_; have BK363 := n1_; have HB := n2_; have BK373 := n3_; have GW373 := n4_; have GE373 := n5_; have NB363_373 := n6_; have NB373_363 := n7_; clear n0_ n1_ n2_ n3_ n4_ n5_ n6_ n7_; clear hb hbox hg; have hnb50 := NB373_363.out; have hnc50 := NB363_373.out; have hcz51_0 : w49.cell? ⟨gb373, 0, none⟩ = some (.string (⟨#[]⟩ : ByteArray)) := (blk_cell BK373.out 0).trans rfl; have hcz51_1 : w49.cell? ⟨gb373, 1, none⟩ = some (.string (⟨#[]⟩ : ByteArray)) := (blk_cell BK373.out 1).trans rfl; have hcz51_2 : w49.cell? ⟨gb373, 2, none⟩ = some (.string (⟨#[]⟩ : ByteArray)) := (blk_cell BK373.out 2).trans rfl; have hcz51_3 : w49.cell? ⟨gb373, 3, none⟩ = some (.slice none 0 0) := (blk_cell BK373.out 3).trans rfl; have hfz51_0 := blk_frozen BK373.out 0; have hfz51_1 := blk_frozen BK373.out 1; have hfz51_2 := blk_frozen BK373.out 2; have hfz51_3 := blk_frozen BK373.out 3; obtain ⟨Ao52, co52, eo52⟩ := Kd.R_slice HO371.out; subst eo52; have hcz53_0 : w49.cell? ⟨gb363, 0, none⟩ = some (.string a0_0) := (blk_cell BK363.out 0).trans rfl; have hcz53_1 : w49.cell? ⟨gb363, 1, none⟩ = some (.string a0_1) := (blk_cell BK363.out 1).trans rfl; have hcz53_2 : w49.cell? ⟨gb363, 2, none⟩ = some (.string a0_2) := (blk_cell BK363.out 2).trans rfl; have hcz53_3 : w49.cell? ⟨gb363, 3, none⟩ = some (.slice A0_3 l0_3.length c0_3) := (blk_cell BK363.out 3).trans rfl; have hfz53_0 := blk_frozen BK363.out 0; have hfz53_1 := blk_frozen BK363.out 1; have hfz53_2 := blk_frozen BK363.out 2; have hfz53_3 := blk_frozen BK363.out 3))
            go_ret2
            exact ⟨by first | rfl | (simp [errW_none, errW_some] <;> rfl) | (simp [*, errW_none, errW_some] <;> rfl), by repeat (first | (with_reducible first | exact HB.out | apply below_alloc | apply pw_below_drewN | apply below_drew1 | refine below_set ?_ GE363.out | refine below_set ?_ GE373.out) | exact HB.out)⟩
          ·rw [if_neg c21] at H
           have c21b0 : (t366.toList == a0_0.toList) = false := beq_eq_false_iff_ne.mpr c21
           have c21b1 : (t366.toList != a0_0.toList) = true := bne_iff_ne.mpr c21
           simp only [Option.some.injEq, Prod.mk.injEq] at H
           obtain ⟨rfl, rfl⟩ := H
           have hcz54_0 : wr.cell? ⟨gb363, 0, none⟩ = some (.string a0_0) := (blk_cell BK363.out 0).trans rfl
           have hcz54_1 : wr.cell? ⟨gb363, 1, none⟩ = some (.string a0_1) := (blk_cell BK363.out 1).trans rfl
           have hcz54_2 : wr.cell? ⟨gb363, 2, none⟩ = some (.string a0_2) := (blk_cell BK363.out 2).trans rfl
           have hcz54_3 : wr.cell? ⟨gb363, 3, none⟩ = some (.slice A0_3 l0_3.length c0_3) := (blk_cell BK363.out 3).trans rfl
           have hfz54_0 := blk_frozen BK363.out 0
           have hfz54_1 := blk_frozen BK363.out 1
           have hfz54_2 := blk_frozen BK363.out 2
           have hfz54_3 := blk_frozen BK363.out 3
           go_wp2_with (first | ((with_reducible refine gate_callee (f := 19) rfl ?_); refine goesL_ (some 41) rfl rfl Tryd.func19 (by kernel_rfl) rfl #[.string x4_1] rfl (by (try simp only [List.map_toArray, List.map_cons, List.map_nil]); first | done | rfl | (simp only [List.length_drop, List.length_take]; rfl)) ?_; (with_reducible refine (graftwoodref03_Split.calls k1 x4_1 t366 t367 t368 t369 true _ A19.out).mono ?_); rintro e w55 ⟨v370, rfl, ho0, hb⟩; refine ⟨_, rfl, ?_⟩; have n0_ := Aside0.mk (Kd.R_lower ho0 (below_size (by repeat (first | (with_reducible first | exact HB.out | apply below_alloc | apply pw_below_drewN | apply below_drew1 | refine below_set ?_ GE363.out) | exact HB.out)))); have n1_ := Aside0.mk (blk_below (g := gb363) (o := .cells #[.string a0_0, .string a0_1, .string a0_2, .slice A0_3 l0_3.length c0_3] 36 (0, 0)) (by (with_reducible repeat (first | refine blk_drewN ?_ _ | refine blk_drew ?_ | refine blk_alloc ?_ _)); exact BK363.out) hb); have n2_ := Aside0.mk (below_step (by repeat (first | (with_reducible first | exact HB.out | apply below_alloc | apply pw_below_drewN | apply below_drew1 | refine below_set ?_ GE363.out) | exact HB.out)) hb); clear BK363; clear HB; have HO371 := n0_; have BK363 := n1_; have HB := n2_; clear n0_ n1_ n2_; (try clear hb); (try clear hb2); (try clear hk); (try clear hi); (try clear ho0)) | ((with_reducible refine gate_dst (N := 6) rfl ?_); refine box_event ?hg (N := 6) ?hd (cs := #[.string (⟨#[]⟩ : ByteArray), .string (⟨#[]⟩ : ByteArray), .string (⟨#[]⟩ : ByteArray), .slice none 0 0]) (t := 36) ?hr ?_; (case hd => rfl); (case hg => rfl); (case hr => first | (go_simp; done) | (go_simp; rfl)); intro gb373 hg w56 hbox hb; have n0_ := Aside0.mk (Kd.R_below (by (with_reducible repeat (first | apply Kd.R_alloc | apply Kd.R_drewN | apply Kd.R_drew)); exact HO371.out) hb); have n1_ := Aside0.mk (blk_below (g := gb363) (o := .cells #[.string a0_0, .string a0_1, .string a0_2, .slice A0_3 l0_3.length c0_3] 36 (0, 0)) (by (with_reducible repeat (first | refine blk_drewN ?_ _ | refine blk_drew ?_ | refine blk_alloc ?_ _)); exact BK363.out) hb); have n2_ := Aside0.mk (below_step (by repeat (first | (with_reducible first | exact HB.out | apply below_alloc | apply pw_below_drewN | apply below_drew1 | refine below_set ?_ GE363.out) | exact HB.out)) hb); have n3_ := Aside0.mk (hbox); have n4_ := Aside0.mk ((by rw [hg]; exact (below_size (by repeat (first | (with_reducible first | exact HB.out | apply below_alloc | apply pw_below_drewN | apply below_drew1 | refine below_set ?_ GE363.out) | exact HB.out))) : w.heap.size ≤ gb373)); have n5_ := Aside0.mk ((by rw [hg]; exact (below_size (by repeat (first | (with_reducible first | exact HB.out | apply below_alloc | apply pw_below_drewN | apply below_drew1 | refine below_set ?_ GE363.out) | exact HB.out))) : w.heap.size ≤ gb373)); have n6_ := Aside0.mk ((by rw [hg]; exact Nat.ne_of_lt (blk_lt (g := gb363) (o := .cells #[.string a0_0, .string a0_1, .string a0_2, .slice A0_3 l0_3.length c0_3] 36 (0, 0)) (by (with_reducible repeat (first | refine blk_drewN ?_ _ | refine blk_drew ?_ | refine blk_alloc ?_ _)); exact BK363.out)) : gb363 ≠ gb373)); have n7_ := Aside0.mk ((by rw [hg]; exact Nat.ne_of_gt (blk_lt (g := gb363) (o := .cells #[.string a0_0, .string a0_1, .string a0_2, .slice A0_3 l0_3.length c0_3] 36 (0, 0)) (by (with_reducible repeat (first | refine blk_drewN ?_ _ | refine blk_drew ?_ | refine blk_alloc ?_ _)); exact BK363.out)) : gb373 ≠ gb363)); clear HO371; clear BK363; clear HB; have HO371 := n0_; have BK363 := n1_; have HB := n2_; have BK373 := n3_; have GW373 := n4_; have GE373 := n5_; have NB363_373 := n6_; have NB373_363 := n7_; clear n0_ n1_ n2_ n3_ n4_ n5_ n6_ n7_; clear hb hbox hg; have hnb57 := NB373_363.out; have hnc57 := NB363_373.out; have hcz58_0 : w56.cell? ⟨gb373, 0, none⟩ = some (.string (⟨#[]⟩ : ByteArray)) := (blk_cell BK373.out 0).trans rfl; have hcz58_1 : w56.cell? ⟨gb373, 1, none⟩ = some (.string (⟨#[]⟩ : ByteArray)) := (blk_cell BK373.out 1).trans rfl; have hcz58_2 : w56.cell? ⟨gb373, 2, none⟩ = some (.string (⟨#[]⟩ : ByteArray)) := (blk_cell BK373.out 2).trans rfl; have hcz58_3 : w56.cell? ⟨gb373, 3, none⟩ = some (.slice none 0 0) := (blk_cell BK373.out 3).trans rfl; have hfz58_0 := blk_frozen BK373.out 0; have hfz58_1 := blk_frozen BK373.out 1; have hfz58_2 := blk_frozen BK373.out 2; have hfz58_3 := blk_frozen BK373.out 3; obtain ⟨Ao59, co59, eo59⟩ := Kd.R_slice HO371.out; subst eo59; have hcz60_0 : w56.cell? ⟨gb363, 0, none⟩ = some (.string a0_0) := (blk_cell BK363.out 0).trans rfl; have hcz60_1 : w56.cell? ⟨gb363, 1, none⟩ = some (.string a0_1) := (blk_cell BK363.out 1).trans rfl; have hcz60_2 : w56.cell? ⟨gb363, 2, none⟩ = some (.string a0_2) := (blk_cell BK363.out 2).trans rfl; have hcz60_3 : w56.cell? ⟨gb363, 3, none⟩ = some (.slice A0_3 l0_3.length c0_3) := (blk_cell BK363.out 3).trans rfl; have hfz60_0 := blk_frozen BK363.out 0; have hfz60_1 := blk_frozen BK363.out 1; have hfz60_2 := blk_frozen BK363.out 2; have hfz60_3 := blk_frozen BK363.out 3))
           go_ret2
           exact ⟨by first | rfl | (simp [errW_none, errW_some] <;> rfl) | (simp [*, errW_none, errW_some] <;> rfl), by repeat (first | (with_reducible first | exact HB.out | apply below_alloc | apply pw_below_drewN | apply below_drew1 | refine below_set ?_ GE363.out | refine below_set ?_ GE373.out) | exact HB.out)⟩
         ·replace c20 := Bool.eq_false_iff.mpr c20
          subst c20
          have H1 : (some ((⟨#[]⟩ : ByteArray), 1)) = some (r1, r2) := by rw [if_neg (show ¬ (false = true) by decide)] at H; exact H
          clear H
          have H := H1
          clear H1
          simp only [Option.some.injEq, Prod.mk.injEq] at H
          obtain ⟨rfl, rfl⟩ := H
          have hcz61_0 : wr.cell? ⟨gb363, 0, none⟩ = some (.string a0_0) := (blk_cell BK363.out 0).trans rfl
          have hcz61_1 : wr.cell? ⟨gb363, 1, none⟩ = some (.string a0_1) := (blk_cell BK363.out 1).trans rfl
          have hcz61_2 : wr.cell? ⟨gb363, 2, none⟩ = some (.string a0_2) := (blk_cell BK363.out 2).trans rfl
          have hcz61_3 : wr.cell? ⟨gb363, 3, none⟩ = some (.slice A0_3 l0_3.length c0_3) := (blk_cell BK363.out 3).trans rfl
          have hfz61_0 := blk_frozen BK363.out 0
          have hfz61_1 := blk_frozen BK363.out 1
          have hfz61_2 := blk_frozen BK363.out 2
          have hfz61_3 := blk_frozen BK363.out 3
          go_wp2_with (first | ((with_reducible refine gate_callee (f := 19) rfl ?_); refine goesL_ (some 41) rfl rfl Tryd.func19 (by kernel_rfl) rfl #[.string x4_1] rfl (by (try simp only [List.map_toArray, List.map_cons, List.map_nil]); first | done | rfl | (simp only [List.length_drop, List.length_take]; rfl)) ?_; (with_reducible refine (graftwoodref03_Split.calls k1 x4_1 t366 t367 t368 t369 false _ A19.out).mono ?_); rintro e w62 ⟨v370, rfl, ho0, hb⟩; refine ⟨_, rfl, ?_⟩; have n0_ := Aside0.mk (Kd.R_lower ho0 (below_size (by repeat (first | (with_reducible first | exact HB.out | apply below_alloc | apply pw_below_drewN | apply below_drew1 | refine below_set ?_ GE363.out) | exact HB.out)))); have n1_ := Aside0.mk (blk_below (g := gb363) (o := .cells #[.string a0_0, .string a0_1, .string a0_2, .slice A0_3 l0_3.length c0_3] 36 (0, 0)) (by (with_reducible repeat (first | refine blk_drewN ?_ _ | refine blk_drew ?_ | refine blk_alloc ?_ _)); exact BK363.out) hb); have n2_ := Aside0.mk (below_step (by repeat (first | (with_reducible first | exact HB.out | apply below_alloc | apply pw_below_drewN | apply below_drew1 | refine below_set ?_ GE363.out) | exact HB.out)) hb); clear BK363; clear HB; have HO371 := n0_; have BK363 := n1_; have HB := n2_; clear n0_ n1_ n2_; (try clear hb); (try clear hb2); (try clear hk); (try clear hi); (try clear ho0)) | ((with_reducible refine gate_dst (N := 6) rfl ?_); refine box_event ?hg (N := 6) ?hd (cs := #[.string (⟨#[]⟩ : ByteArray), .string (⟨#[]⟩ : ByteArray), .string (⟨#[]⟩ : ByteArray), .slice none 0 0]) (t := 36) ?hr ?_; (case hd => rfl); (case hg => rfl); (case hr => first | (go_simp; done) | (go_simp; rfl)); intro gb373 hg w63 hbox hb; have n0_ := Aside0.mk (Kd.R_below (by (with_reducible repeat (first | apply Kd.R_alloc | apply Kd.R_drewN | apply Kd.R_drew)); exact HO371.out) hb); have n1_ := Aside0.mk (blk_below (g := gb363) (o := .cells #[.string a0_0, .string a0_1, .string a0_2, .slice A0_3 l0_3.length c0_3] 36 (0, 0)) (by (with_reducible repeat (first | refine blk_drewN ?_ _ | refine blk_drew ?_ | refine blk_alloc ?_ _)); exact BK363.out) hb); have n2_ := Aside0.mk (below_step (by repeat (first | (with_reducible first | exact HB.out | apply below_alloc | apply pw_below_drewN | apply below_drew1 | refine below_set ?_ GE363.out) | exact HB.out)) hb); have n3_ := Aside0.mk (hbox); have n4_ := Aside0.mk ((by rw [hg]; exact (below_size (by repeat (first | (with_reducible first | exact HB.out | apply below_alloc | apply pw_below_drewN | apply below_drew1 | refine below_set ?_ GE363.out) | exact HB.out))) : w.heap.size ≤ gb373)); have n5_ := Aside0.mk ((by rw [hg]; exact (below_size (by repeat (first | (with_reducible first | exact HB.out | apply below_alloc | apply pw_below_drewN | apply below_drew1 | refine below_set ?_ GE363.out) | exact HB.out))) : w.heap.size ≤ gb373)); have n6_ := Aside0.mk ((by rw [hg]; exact Nat.ne_of_lt (blk_lt (g := gb363) (o := .cells #[.string a0_0, .string a0_1, .string a0_2, .slice A0_3 l0_3.length c0_3] 36 (0, 0)) (by (with_reducible repeat (first | refine blk_drewN ?_ _ | refine blk_drew ?_ | refine blk_alloc ?_ _)); exact BK363.out)) : gb363 ≠ gb373)); have n7_ := Aside0.mk ((by rw [hg]; exact Nat.ne_of_gt (blk_lt (g := gb363) (o := .cells #[.string a0_0, .string a0_1, .string a0_2, .slice A0_3 l0_3.length c0_3] 36 (0, 0)) (by (with_reducible repeat (first | refine blk_drewN ?_ _ | refine blk_drew ?_ | refine blk_alloc ?_ _)); exact BK363.out)) : gb373 ≠ gb363)); clear HO371; clear BK363; clear HB; have HO371 := n0_; have BK363 := n1_; have HB := n2_; have BK373 := n3_; have GW373 := n4_; have GE373 := n5_; have NB363_373 := n6_; have NB373_363 := n7_; clear n0_ n1_ n2_ n3_ n4_ n5_ n6_ n7_; clear hb hbox hg; have hnb64 := NB373_363.out; have hnc64 := NB363_373.out; have hcz65_0 : w63.cell? ⟨gb373, 0, none⟩ = some (.string (⟨#[]⟩ : ByteArray)) := (blk_cell BK373.out 0).trans rfl; have hcz65_1 : w63.cell? ⟨gb373, 1, none⟩ = some (.string (⟨#[]⟩ : ByteArray)) := (blk_cell BK373.out 1).trans rfl; have hcz65_2 : w63.cell? ⟨gb373, 2, none⟩ = some (.string (⟨#[]⟩ : ByteArray)) := (blk_cell BK373.out 2).trans rfl; have hcz65_3 : w63.cell? ⟨gb373, 3, none⟩ = some (.slice none 0 0) := (blk_cell BK373.out 3).trans rfl; have hfz65_0 := blk_frozen BK373.out 0; have hfz65_1 := blk_frozen BK373.out 1; have hfz65_2 := blk_frozen BK373.out 2; have hfz65_3 := blk_frozen BK373.out 3; obtain ⟨Ao66, co66, eo66⟩ := Kd.R_slice HO371.out; subst eo66))
          go_ret2
          exact ⟨by first | rfl | (simp [errW_none, errW_some] <;> rfl) | (simp [*, errW_none, errW_some] <;> rfl), by repeat (first | (with_reducible first | exact HB.out | apply below_alloc | apply pw_below_drewN | apply below_drew1 | refine below_set ?_ GE363.out | refine below_set ?_ GE373.out) | exact HB.out)⟩
     ·rw [if_neg c6] at H
      exact absurd H (by simp)
    ·rw [if_neg c5] at H
     exact absurd H (by simp)
   ·rw [if_neg c4] at H
    exact absurd H (by simp)
  ·rw [if_neg c3] at H
   exact absurd H (by simp)
 ·rw [if_neg c2] at H
  exact absurd H (by simp)

end Go.Proofs.YtjadpeahoaogcaaDoor.P
