-- Written by this project's own program (wip/tools/hp.py), driving the kit's print; hand texts among it. Not trusted: Lean checks it.
-- half the indentation
import Derived.Test.YtpiamehededilaaThen
import Derived.Test.YtpiamehededilaaP0
import Derived.Test.YtpiamehededilaaP2
namespace Go.Proofs.Ytpiamehededilaa.P
open Go.RowKit Go.Proofs.YtpiamehededilaaW.PrintWords Go.Proofs.YtpiamehededilaaW.PrintLast Go.Proofs.YtpiamehededilaaW.PrintMore
attribute [local go_sem] max2_int min2_int max_two min_two max_three min_three max_four min_four   -- for this text's walks alone
set_option linter.unusedVariables false
set_option linter.unusedSimpArgs false

/-! ### edges_Check: function 46 -/
def edges_Check.l0 : Nat → List (S36) → List (S36) → Int → Int → Option (Int)
 | 0, _, _, _, _ => none
 | k + 1, x0, x5, x6, x7 => if x7 < x6 then (if 0 ≤ x7 then (if x7 < (x5.length : Int) then (if ((rd_T36 x5 x7).f0) < (-1) then (some 1) else (if ((rd_T36 x5 x7).f1) < 0 then (some 1) else (if ((rd_T36 x5 x7).f2) < 1 then (some 1) else (if ((rd_T36 x5 x7).f2) > 1099511627776 then (some 1) else (if x7 > 0 then (if 0 ≤ (wrap64 (x7 - 1)) then (if (wrap64 (x7 - 1)) < (x0.length : Int) then ((edges_order.f k ((rd_T36 x0 (wrap64 (x7 - 1))).f0) ((rd_T36 x0 (wrap64 (x7 - 1))).f1) ((rd_T36 x0 (wrap64 (x7 - 1))).f2) ((rd_T36 x5 x7).f0) ((rd_T36 x5 x7).f1) ((rd_T36 x5 x7).f2)).bind fun ak => (if ak ≥ 0 then (some 1) else (edges_Check.l0 k x0 x5 x6 (wrap64 (x7 + 1))))) else (none)) else (none)) else (edges_Check.l0 k x0 x5 x6 (wrap64 (x7 + 1)))))))) else (none)) else (none)) else (some 0)
def edges_Check.f (k : Nat) (l0 : List (S36)) : Option (Int) := edges_Check.l0 k l0 l0 (l0.length : Int) 0
theorem edges_Check.mono_l : ∀ k, (∀ y0 y1 y2 y3, LeO (edges_Check.l0 k y0 y1 y2 y3) (edges_Check.l0 (k + 1) y0 y1 y2 y3))
 | 0 => fun _ _ _ _ r h => by simp [edges_Check.l0] at h
 | k + 1 => by
  have ih0 := edges_Check.mono_l k
  ·intro y0 y1 y2 y3
   unfold edges_Check.l0
   repeat' first
   | (with_reducible exact ih0 _ _ _ _)
   | (with_reducible exact edges_order.mono _ _ _ _ _ _ _)
   | (with_reducible exact LeO.refl _)
   | (with_reducible exact LeO.none _)
   | (with_reducible refine LeO.ite ?_ ?_)
   | (with_reducible refine LeO.bind ?_ (fun _ => ?_))
   | exact ih0 _ _ _ _
   | exact edges_order.mono _ _ _ _ _ _ _
   | exact LeO.none _
   | refine LeO.ite ?_ ?_
   | refine LeO.bind ?_ (fun _ => ?_)
theorem edges_Check.mono : ∀ a0 k, LeO (edges_Check.f k a0) (edges_Check.f (k + 1) a0) := by
 intro a0 k
 have ih0 := edges_Check.mono_l k
 unfold edges_Check.f
 repeat' first
   | (with_reducible exact ih0 _ _ _ _)
   | (with_reducible exact edges_order.mono _ _ _ _ _ _ _)
   | (with_reducible exact LeO.refl _)
   | (with_reducible exact LeO.none _)
   | (with_reducible refine LeO.ite ?_ ?_)
   | (with_reducible refine LeO.bind ?_ (fun _ => ?_))
   | exact ih0 _ _ _ _
   | exact edges_order.mono _ _ _ _ _ _ _
   | exact LeO.none _
   | refine LeO.ite ?_ ?_
   | refine LeO.bind ?_ (fun _ => ?_)
def edges_Check.T4 : Bool × List (List Nat × List Nat) := (true, [([], []), ([0], [0]), ([1], [1]), ([2], [2]), ([3], [3]), ([4, 3], [3, 4]), ([5, 3], [3, 5]), ([3, 6], [3, 6]), ([7, 3], [7]), ([8], [8]), ([9, 8], [8, 9]), ([10, 8], [8, 10]), ([8, 11], [8, 11]), ([12, 8], [12]), ([13], [13]), ([14, 13], [13, 14]), ([15, 13], [13, 15]), ([13, 16], [13, 16]), ([17, 13], [17]), ([18], [18]), ([19, 18], [18, 19]), ([20, 18, 18], [18, 20]), ([21], [21]), ([21], [21]), ([23, 21], [21, 23]), ([22, 24, 21], [21, 22, 24]), ([25, 21], [21, 25]), ([21], [21]), ([26, 27, 21, 21], [21, 26, 27]), ([28, 21], [21, 28]), ([21, 29, 18], [18, 21, 29]), ([18, 30], [18, 30])])
def edges_Check.B4 : List Nat := [0, 1, 3, 7, 15, 31, 63, 127, 255, 511, 1023, 2047, 4095, 8191, 16383, 32767, 65535, 131071, 262143, 524287, 1048575, 2097151, 4194303, 4194303, 12582911, 33554431, 67108863, 4194303, 268435455, 536870911, 1073741823, 2147483647]
theorem edges_Check.tab4 : rtab .any (opsOf Try.f46 4) = edges_Check.T4 := by kernel_rfl
theorem edges_Check.bits4 : waitsOk edges_Check.T4.2 edges_Check.B4 = true := by kernel_rfl
set_option maxHeartbeats 8000000 in
set_option maxRecDepth 100000 in
theorem edges_Check.calls (k : Nat) (A0 : Option Addr) (c0 : Nat) (l0 : List (S36)) (r : Int) (w : World) (hr0 : Kd.C k36 w A0 l0.length l0) (hc0 : l0.length ≤ c0) (h : edges_Check.f k l0 = some r) :
  Calls Try.prog 46 #[.slice A0 l0.length c0] w fun e w' => e = .returned (.int .i64 r) ∧ Below w.heap.size w w' := by
 have hu36 := Try.underlying36
 have HR0 := Aside0.mk hr0
 have HC0 := Aside0.mk hc0
 clear hr0 hc0
 have HB := am (Below.refl w.heap.size w)
 have H : (edges_Check.l0 k l0 l0 (l0.length : Int) 0) = some r := h
 clear h
 have H' := Aside0.mk H
 clear H
 go_enter Try.func46, Try.ntmps46
 go_wp2
 go_loopg [7] k (fun kq v7 w' => ∃ (aa : Int), v7 = .int .i64 aa ∧ Aside0 (edges_Check.l0 kq l0 l0 (l0.length : Int) aa = some r) ∧ Aside0 (kq ≤ k) ∧ Aside0 (Below w.heap.size w w'))
 case atStart => exact ⟨(0), (by first | rfl | (simp; done) | (simp [*]; done)), H', ⟨Nat.le_refl _⟩, ⟨eT HB.out⟩⟩
 case round =>
  clear H'
  obtain ⟨aa, rfl, HA, HK1, HB⟩ := hrel
  cases gk with
  | zero => exact absurd HA.out (by simp [edges_Check.l0])
  | succ k1 =>
   have H := HA.out
   clear HA
   simp only [edges_Check.l0] at H
   by_cases c2 : aa < (l0.length : Int)
   ·rw [if_pos c2] at H
    have a_ : decide (aa < (l0.length : Int)) = true := decide_eq_true c2
    clear c2
    by_cases c3 : 0 ≤ aa
    ·rw [if_pos c3] at H
     have bm : decide (0 ≤ aa) = true := decide_eq_true c3
     clear c3
     by_cases c4 : aa < (l0.length : Int)
     ·rw [if_pos c4] at H
      have bo : decide (aa < (l0.length : Int)) = true := decide_eq_true c4
      clear c4
      by_cases c5 : ((rd_T36 l0 aa).f0) < (-1)
      ·rw [if_pos c5] at H
       have bb : decide (((rd_T36 l0 aa).f0) < (-1)) = true := decide_eq_true c5
       clear c5
       obtain rfl := Option.some.inj H
       have p127 : 0 ≤ (aa : Int) := of_decide_eq_true (by first | (with_reducible assumption) | assumption)
       have q127 : aa < (l0.length : Int) := of_decide_eq_true (by first | (with_reducible assumption) | assumption)
       obtain ⟨ad127, e127, ad, ae, af⟩ := at_T36 HR0.out aa p127 q127
       cases e127
       replace ad := (HB.out.cell (World.block_lt_of_cell? w _ ad)).trans ad
       replace ae := (HB.out.cell (World.block_lt_of_cell? w _ ae)).trans ae
       replace af := (HB.out.cell (World.block_lt_of_cell? w _ af)).trans af
       replace p127 := eq_true p127
       replace q127 := eq_true q127
       try go_wp2_with (first | ((with_reducible refine gate_dst (N := 4) rfl ?_); refine box_event ?hg (N := 4) ?hd (cs := #[.int .i64 0, .int .i64 0, .int .i64 0]) (t := 36) ?hr ?_; (case hd => rfl); (case hg => rfl); (case hr => first | (go_simp; done) | (go_simp; rfl)); intro ac hg w6 hbox hb; have ab := am (hbox); have al := am ((gT hg HB.out)); have an := am ((gT hg HB.out)); replace HB := am (sT HB.out hb); clear hb hbox hg; have bc : w6.cell? ⟨ac, 0, none⟩ = some (.int .i64 0) := cT ab 0; have be : w6.cell? ⟨ac, 1, none⟩ = some (.int .i64 0) := cT ab 1; have bf : w6.cell? ⟨ac, 2, none⟩ = some (.int .i64 0) := cT ab 2; have bg := blk_frozen ab.out 0; have bh := blk_frozen ab.out 1; have bi := blk_frozen ab.out 2))
       have n0_ : Aside0 ((((w6.setCell ⟨ac, 0, none⟩ (.int .i64 ((rd_T36 l0 aa).f0))).setCell ⟨ac, 1, none⟩ (.int .i64 ((rd_T36 l0 aa).f1))).setCell ⟨ac, 2, none⟩ (.int .i64 ((rd_T36 l0 aa).f2))).heap[ac]? = some (.cells #[.int .i64 ((rd_T36 l0 aa).f0), .int .i64 ((rd_T36 l0 aa).f1), .int .i64 ((rd_T36 l0 aa).f2)] 36 (0, 0))) := ⟨by (with_reducible repeat (first | apply bn | apply bd | apply ba)); refine blk_put (cs := #[.int .i64 ((rd_T36 l0 aa).f0), .int .i64 ((rd_T36 l0 aa).f1), .int .i64 0]) ?_ 2 _ rfl; (with_reducible repeat (first | apply bn | apply bd | apply ba)); refine blk_put (cs := #[.int .i64 ((rd_T36 l0 aa).f0), .int .i64 0, .int .i64 0]) ?_ 1 _ rfl; (with_reducible repeat (first | apply bn | apply bd | apply ba)); refine blk_put (cs := #[.int .i64 0, .int .i64 0, .int .i64 0]) ?_ 0 _ rfl; exact bT ab.out⟩
       have n1_ : Aside0 (Below w.heap.size w (((w6.setCell ⟨ac, 0, none⟩ (.int .i64 ((rd_T36 l0 aa).f0))).setCell ⟨ac, 1, none⟩ (.int .i64 ((rd_T36 l0 aa).f1))).setCell ⟨ac, 2, none⟩ (.int .i64 ((rd_T36 l0 aa).f2)))) := ⟨by repeat (first | (with_reducible first | exact HB.out | apply pA | apply pN | apply pD | refine eU ?_ (by assumption)) | exact HB.out)⟩
       (try clear ab)
       (try clear HB)
       generalize (((w6.setCell ⟨ac, 0, none⟩ (.int .i64 ((rd_T36 l0 aa).f0))).setCell ⟨ac, 1, none⟩ (.int .i64 ((rd_T36 l0 aa).f1))).setCell ⟨ac, 2, none⟩ (.int .i64 ((rd_T36 l0 aa).f2))) = w8 at n0_ n1_ ⊢
       have ab := n0_
       have HB := n1_
       clear n0_ n1_
       replace ab := am (blk_drew ab.out)
       replace HB := am (below_drew1 HB.out)
       refine start_ (n := 32) (S := fun w' => w'.cell? ⟨ac, 0, none⟩ = some (.int .i64 ((rd_T36 l0 aa).f0)) ∧ w'.cell? ⟨ac, 1, none⟩ = some (.int .i64 ((rd_T36 l0 aa).f1)) ∧ w'.cell? ⟨ac, 2, none⟩ = some (.int .i64 ((rd_T36 l0 aa).f2))) (ds := []) (bA 32 0) (by kernel_rfl) rfl (by kernel_rfl) ⟨cT ab 0, cT ab 1, cT ab 2⟩ (fun hHeld => ?_); refine with_tabW edges_Check.tab4 edges_Check.bits4 (fun HT_ HW_ => ?_)
       generalize w8.drew = w9 at ab HB hHeld ⊢
       refine pT 0 12 (bA 32 1) HT_.out ?_
       refine tT 1 13 (bA 32 3) HT_.out HW_.out hHeld ?_ (hy := by rintro w' ⟨s0, s1, s2⟩; go_simp; with_reducible rfl)
       refine pT 2 14 (bA 32 7) HT_.out ?_
       refine pT 3 15 (bA 32 15) HT_.out ?_
       refine pU 4 16 (bA 32 31) HT_.out ?_
       refine pU 5 17 (bA 32 63) HT_.out ?_
       refine pU 6 18 (bA 32 127) HT_.out ?_
       refine pT 7 19 (bA 32 255) HT_.out ?_
       refine pT 8 20 (bA 32 511) HT_.out ?_
       refine pU 9 21 (bA 32 1023) HT_.out ?_
       refine pU 10 22 (bA 32 2047) HT_.out ?_
       refine pU 11 23 (bA 32 4095) HT_.out ?_
       refine pT 12 24 (bA 32 8191) HT_.out ?_
       refine pT 13 25 (bA 32 16383) HT_.out ?_
       refine pU 14 26 (bA 32 32767) HT_.out ?_
       refine pU 15 27 (bA 32 65535) HT_.out ?_
       refine pU 16 28 (bA 32 131071) HT_.out ?_
       refine pT 17 29 (bA 32 262143) HT_.out ?_
       refine pT 18 30 (bA 32 524287) HT_.out ?_
       refine pU 19 31 (bA 32 1048575) HT_.out ?_
       refine pU 20 32 (bA 32 2097151) HT_.out ?_
       refine pU 21 33 (bA 32 4194303) HT_.out ?_
       refine pU 22 34 (bA 32 8388607) HT_.out ?_
       refine pU 23 35 (bA 32 16777215) HT_.out ?_
       refine pU 24 36 (bA 32 33554431) HT_.out ?_
       refine pU 25 37 (bA 32 67108863) HT_.out ?_
       refine pU 26 38 (bA 32 134217727) HT_.out ?_
       refine pU 27 39 (bA 32 268435455) HT_.out ?_
       refine pU 28 40 (bA 32 536870911) HT_.out ?_
       refine pU 29 41 (bA 32 1073741823) HT_.out ?_
       refine pU 30 42 (bA 32 2147483647) HT_.out ?_
       refine pT 31 43 (bA 32 4294967295) HT_.out ?_
       refine done_ (done_of HT_.out (by kernel_rfl)) ?_
       try go_wp2
       go_ret
       exact ⟨by first | rfl | (simp [errW_none, errW_some] <;> rfl) | (simp [*, errW_none, errW_some] <;> rfl), eT HB.out⟩
      ·rw [if_neg c5] at H
       have bb : decide (((rd_T36 l0 aa).f0) < (-1)) = false := decide_eq_false c5
       clear c5
       by_cases c10 : ((rd_T36 l0 aa).f1) < 0
       ·rw [if_pos c10] at H
        have ap : decide (((rd_T36 l0 aa).f1) < 0) = true := decide_eq_true c10
        clear c10
        obtain rfl := Option.some.inj H
        have p127 : 0 ≤ (aa : Int) := of_decide_eq_true (by first | (with_reducible assumption) | assumption)
        have q127 : aa < (l0.length : Int) := of_decide_eq_true (by first | (with_reducible assumption) | assumption)
        obtain ⟨ad127, e127, ad, ae, af⟩ := at_T36 HR0.out aa p127 q127
        cases e127
        replace ad := (HB.out.cell (World.block_lt_of_cell? w _ ad)).trans ad
        replace ae := (HB.out.cell (World.block_lt_of_cell? w _ ae)).trans ae
        replace af := (HB.out.cell (World.block_lt_of_cell? w _ af)).trans af
        replace p127 := eq_true p127
        replace q127 := eq_true q127
        try go_wp2_with (first | ((with_reducible refine gate_dst (N := 4) rfl ?_); refine box_event ?hg (N := 4) ?hd (cs := #[.int .i64 0, .int .i64 0, .int .i64 0]) (t := 36) ?hr ?_; (case hd => rfl); (case hg => rfl); (case hr => first | (go_simp; done) | (go_simp; rfl)); intro ac hg w11 hbox hb; have ab := am (hbox); have al := am ((gT hg HB.out)); have an := am ((gT hg HB.out)); replace HB := am (sT HB.out hb); clear hb hbox hg; have ax : w11.cell? ⟨ac, 0, none⟩ = some (.int .i64 0) := cT ab 0; have ay : w11.cell? ⟨ac, 1, none⟩ = some (.int .i64 0) := cT ab 1; have az : w11.cell? ⟨ac, 2, none⟩ = some (.int .i64 0) := cT ab 2; have aA := blk_frozen ab.out 0; have aB := blk_frozen ab.out 1; have aC := blk_frozen ab.out 2))
        have n0_ : Aside0 ((((w11.setCell ⟨ac, 0, none⟩ (.int .i64 ((rd_T36 l0 aa).f0))).setCell ⟨ac, 1, none⟩ (.int .i64 ((rd_T36 l0 aa).f1))).setCell ⟨ac, 2, none⟩ (.int .i64 ((rd_T36 l0 aa).f2))).heap[ac]? = some (.cells #[.int .i64 ((rd_T36 l0 aa).f0), .int .i64 ((rd_T36 l0 aa).f1), .int .i64 ((rd_T36 l0 aa).f2)] 36 (0, 0))) := ⟨by (with_reducible repeat (first | apply bn | apply bd | apply ba)); refine blk_put (cs := #[.int .i64 ((rd_T36 l0 aa).f0), .int .i64 ((rd_T36 l0 aa).f1), .int .i64 0]) ?_ 2 _ rfl; (with_reducible repeat (first | apply bn | apply bd | apply ba)); refine blk_put (cs := #[.int .i64 ((rd_T36 l0 aa).f0), .int .i64 0, .int .i64 0]) ?_ 1 _ rfl; (with_reducible repeat (first | apply bn | apply bd | apply ba)); refine blk_put (cs := #[.int .i64 0, .int .i64 0, .int .i64 0]) ?_ 0 _ rfl; exact bT ab.out⟩
        have n1_ : Aside0 (Below w.heap.size w (((w11.setCell ⟨ac, 0, none⟩ (.int .i64 ((rd_T36 l0 aa).f0))).setCell ⟨ac, 1, none⟩ (.int .i64 ((rd_T36 l0 aa).f1))).setCell ⟨ac, 2, none⟩ (.int .i64 ((rd_T36 l0 aa).f2)))) := ⟨by repeat (first | (with_reducible first | exact HB.out | apply pA | apply pN | apply pD | refine eU ?_ (by assumption)) | exact HB.out)⟩
        (try clear ab)
        (try clear HB)
        generalize (((w11.setCell ⟨ac, 0, none⟩ (.int .i64 ((rd_T36 l0 aa).f0))).setCell ⟨ac, 1, none⟩ (.int .i64 ((rd_T36 l0 aa).f1))).setCell ⟨ac, 2, none⟩ (.int .i64 ((rd_T36 l0 aa).f2))) = w13 at n0_ n1_ ⊢
        have ab := n0_
        have HB := n1_
        clear n0_ n1_
        replace ab := am (blk_drew ab.out)
        replace HB := am (below_drew1 HB.out)
        refine start_ (n := 32) (S := fun w' => w'.cell? ⟨ac, 0, none⟩ = some (.int .i64 ((rd_T36 l0 aa).f0)) ∧ w'.cell? ⟨ac, 1, none⟩ = some (.int .i64 ((rd_T36 l0 aa).f1)) ∧ w'.cell? ⟨ac, 2, none⟩ = some (.int .i64 ((rd_T36 l0 aa).f2))) (ds := []) (bA 32 0) (by kernel_rfl) rfl (by kernel_rfl) ⟨cT ab 0, cT ab 1, cT ab 2⟩ (fun hHeld => ?_); refine with_tabW edges_Check.tab4 edges_Check.bits4 (fun HT_ HW_ => ?_)
        generalize w13.drew = w14 at ab HB hHeld ⊢
        refine pT 0 12 (bA 32 1) HT_.out ?_
        refine tT 1 13 (bA 32 3) HT_.out HW_.out hHeld ?_ (hy := by rintro w' ⟨s0, s1, s2⟩; go_simp; with_reducible rfl)
        refine pT 2 14 (bA 32 7) HT_.out ?_
        refine pT 3 15 (bA 32 15) HT_.out ?_
        refine pT 4 16 (bA 32 31) HT_.out ?_
        refine tT 5 17 (bA 32 63) HT_.out HW_.out hHeld ?_ (hy := by rintro w' ⟨s0, s1, s2⟩; go_simp; with_reducible rfl)
        refine pT 6 18 (bA 32 127) HT_.out ?_
        refine pT 7 19 (bA 32 255) HT_.out ?_
        refine pT 8 20 (bA 32 511) HT_.out ?_
        refine pU 9 21 (bA 32 1023) HT_.out ?_
        refine pU 10 22 (bA 32 2047) HT_.out ?_
        refine pU 11 23 (bA 32 4095) HT_.out ?_
        refine pT 12 24 (bA 32 8191) HT_.out ?_
        refine pT 13 25 (bA 32 16383) HT_.out ?_
        refine pU 14 26 (bA 32 32767) HT_.out ?_
        refine pU 15 27 (bA 32 65535) HT_.out ?_
        refine pU 16 28 (bA 32 131071) HT_.out ?_
        refine pT 17 29 (bA 32 262143) HT_.out ?_
        refine pT 18 30 (bA 32 524287) HT_.out ?_
        refine pU 19 31 (bA 32 1048575) HT_.out ?_
        refine pU 20 32 (bA 32 2097151) HT_.out ?_
        refine pU 21 33 (bA 32 4194303) HT_.out ?_
        refine pU 22 34 (bA 32 8388607) HT_.out ?_
        refine pU 23 35 (bA 32 16777215) HT_.out ?_
        refine pU 24 36 (bA 32 33554431) HT_.out ?_
        refine pU 25 37 (bA 32 67108863) HT_.out ?_
        refine pU 26 38 (bA 32 134217727) HT_.out ?_
        refine pU 27 39 (bA 32 268435455) HT_.out ?_
        refine pU 28 40 (bA 32 536870911) HT_.out ?_
        refine pU 29 41 (bA 32 1073741823) HT_.out ?_
        refine pU 30 42 (bA 32 2147483647) HT_.out ?_
        refine pT 31 43 (bA 32 4294967295) HT_.out ?_
        refine done_ (done_of HT_.out (by kernel_rfl)) ?_
        try go_wp2
        go_ret
        exact ⟨by first | rfl | (simp [errW_none, errW_some] <;> rfl) | (simp [*, errW_none, errW_some] <;> rfl), eT HB.out⟩
       ·rw [if_neg c10] at H
        have ap : decide (((rd_T36 l0 aa).f1) < 0) = false := decide_eq_false c10
        clear c10
        by_cases c15 : ((rd_T36 l0 aa).f2) < 1
        ·rw [if_pos c15] at H
         have aq : decide (((rd_T36 l0 aa).f2) < 1) = true := decide_eq_true c15
         clear c15
         obtain rfl := Option.some.inj H
         have p127 : 0 ≤ (aa : Int) := of_decide_eq_true (by first | (with_reducible assumption) | assumption)
         have q127 : aa < (l0.length : Int) := of_decide_eq_true (by first | (with_reducible assumption) | assumption)
         obtain ⟨ad127, e127, ad, ae, af⟩ := at_T36 HR0.out aa p127 q127
         cases e127
         replace ad := (HB.out.cell (World.block_lt_of_cell? w _ ad)).trans ad
         replace ae := (HB.out.cell (World.block_lt_of_cell? w _ ae)).trans ae
         replace af := (HB.out.cell (World.block_lt_of_cell? w _ af)).trans af
         replace p127 := eq_true p127
         replace q127 := eq_true q127
         try go_wp2_with (first | ((with_reducible refine gate_dst (N := 4) rfl ?_); refine box_event ?hg (N := 4) ?hd (cs := #[.int .i64 0, .int .i64 0, .int .i64 0]) (t := 36) ?hr ?_; (case hd => rfl); (case hg => rfl); (case hr => first | (go_simp; done) | (go_simp; rfl)); intro ac hg w16 hbox hb; have ab := am (hbox); have al := am ((gT hg HB.out)); have an := am ((gT hg HB.out)); replace HB := am (sT HB.out hb); clear hb hbox hg; have aD : w16.cell? ⟨ac, 0, none⟩ = some (.int .i64 0) := cT ab 0; have aE : w16.cell? ⟨ac, 1, none⟩ = some (.int .i64 0) := cT ab 1; have aF : w16.cell? ⟨ac, 2, none⟩ = some (.int .i64 0) := cT ab 2; have aG := blk_frozen ab.out 0; have aH := blk_frozen ab.out 1; have aI := blk_frozen ab.out 2))
         have n0_ : Aside0 ((((w16.setCell ⟨ac, 0, none⟩ (.int .i64 ((rd_T36 l0 aa).f0))).setCell ⟨ac, 1, none⟩ (.int .i64 ((rd_T36 l0 aa).f1))).setCell ⟨ac, 2, none⟩ (.int .i64 ((rd_T36 l0 aa).f2))).heap[ac]? = some (.cells #[.int .i64 ((rd_T36 l0 aa).f0), .int .i64 ((rd_T36 l0 aa).f1), .int .i64 ((rd_T36 l0 aa).f2)] 36 (0, 0))) := ⟨by (with_reducible repeat (first | apply bn | apply bd | apply ba)); refine blk_put (cs := #[.int .i64 ((rd_T36 l0 aa).f0), .int .i64 ((rd_T36 l0 aa).f1), .int .i64 0]) ?_ 2 _ rfl; (with_reducible repeat (first | apply bn | apply bd | apply ba)); refine blk_put (cs := #[.int .i64 ((rd_T36 l0 aa).f0), .int .i64 0, .int .i64 0]) ?_ 1 _ rfl; (with_reducible repeat (first | apply bn | apply bd | apply ba)); refine blk_put (cs := #[.int .i64 0, .int .i64 0, .int .i64 0]) ?_ 0 _ rfl; exact bT ab.out⟩
         have n1_ : Aside0 (Below w.heap.size w (((w16.setCell ⟨ac, 0, none⟩ (.int .i64 ((rd_T36 l0 aa).f0))).setCell ⟨ac, 1, none⟩ (.int .i64 ((rd_T36 l0 aa).f1))).setCell ⟨ac, 2, none⟩ (.int .i64 ((rd_T36 l0 aa).f2)))) := ⟨by repeat (first | (with_reducible first | exact HB.out | apply pA | apply pN | apply pD | refine eU ?_ (by assumption)) | exact HB.out)⟩
         (try clear ab)
         (try clear HB)
         generalize (((w16.setCell ⟨ac, 0, none⟩ (.int .i64 ((rd_T36 l0 aa).f0))).setCell ⟨ac, 1, none⟩ (.int .i64 ((rd_T36 l0 aa).f1))).setCell ⟨ac, 2, none⟩ (.int .i64 ((rd_T36 l0 aa).f2))) = w18 at n0_ n1_ ⊢
         have ab := n0_
         have HB := n1_
         clear n0_ n1_
         replace ab := am (blk_drew ab.out)
         replace HB := am (below_drew1 HB.out)
         refine start_ (n := 32) (S := fun w' => w'.cell? ⟨ac, 0, none⟩ = some (.int .i64 ((rd_T36 l0 aa).f0)) ∧ w'.cell? ⟨ac, 1, none⟩ = some (.int .i64 ((rd_T36 l0 aa).f1)) ∧ w'.cell? ⟨ac, 2, none⟩ = some (.int .i64 ((rd_T36 l0 aa).f2))) (ds := []) (bA 32 0) (by kernel_rfl) rfl (by kernel_rfl) ⟨cT ab 0, cT ab 1, cT ab 2⟩ (fun hHeld => ?_); refine with_tabW edges_Check.tab4 edges_Check.bits4 (fun HT_ HW_ => ?_)
         generalize w18.drew = w19 at ab HB hHeld ⊢
         refine pT 0 12 (bA 32 1) HT_.out ?_
         refine tT 1 13 (bA 32 3) HT_.out HW_.out hHeld ?_ (hy := by rintro w' ⟨s0, s1, s2⟩; go_simp; with_reducible rfl)
         refine pT 2 14 (bA 32 7) HT_.out ?_
         refine pT 3 15 (bA 32 15) HT_.out ?_
         refine pT 4 16 (bA 32 31) HT_.out ?_
         refine tT 5 17 (bA 32 63) HT_.out HW_.out hHeld ?_ (hy := by rintro w' ⟨s0, s1, s2⟩; go_simp; with_reducible rfl)
         refine pT 6 18 (bA 32 127) HT_.out ?_
         refine pT 7 19 (bA 32 255) HT_.out ?_
         refine pT 8 20 (bA 32 511) HT_.out ?_
         refine pT 9 21 (bA 32 1023) HT_.out ?_
         refine tT 10 22 (bA 32 2047) HT_.out HW_.out hHeld ?_ (hy := by rintro w' ⟨s0, s1, s2⟩; go_simp; with_reducible rfl)
         refine pT 11 23 (bA 32 4095) HT_.out ?_
         refine pT 12 24 (bA 32 8191) HT_.out ?_
         refine pT 13 25 (bA 32 16383) HT_.out ?_
         refine pU 14 26 (bA 32 32767) HT_.out ?_
         refine pU 15 27 (bA 32 65535) HT_.out ?_
         refine pU 16 28 (bA 32 131071) HT_.out ?_
         refine pT 17 29 (bA 32 262143) HT_.out ?_
         refine pT 18 30 (bA 32 524287) HT_.out ?_
         refine pU 19 31 (bA 32 1048575) HT_.out ?_
         refine pU 20 32 (bA 32 2097151) HT_.out ?_
         refine pU 21 33 (bA 32 4194303) HT_.out ?_
         refine pU 22 34 (bA 32 8388607) HT_.out ?_
         refine pU 23 35 (bA 32 16777215) HT_.out ?_
         refine pU 24 36 (bA 32 33554431) HT_.out ?_
         refine pU 25 37 (bA 32 67108863) HT_.out ?_
         refine pU 26 38 (bA 32 134217727) HT_.out ?_
         refine pU 27 39 (bA 32 268435455) HT_.out ?_
         refine pU 28 40 (bA 32 536870911) HT_.out ?_
         refine pU 29 41 (bA 32 1073741823) HT_.out ?_
         refine pU 30 42 (bA 32 2147483647) HT_.out ?_
         refine pT 31 43 (bA 32 4294967295) HT_.out ?_
         refine done_ (done_of HT_.out (by kernel_rfl)) ?_
         try go_wp2
         go_ret
         exact ⟨by first | rfl | (simp [errW_none, errW_some] <;> rfl) | (simp [*, errW_none, errW_some] <;> rfl), eT HB.out⟩
        ·rw [if_neg c15] at H
         have aq : decide (((rd_T36 l0 aa).f2) < 1) = false := decide_eq_false c15
         clear c15
         by_cases c20 : ((rd_T36 l0 aa).f2) > 1099511627776
         ·rw [if_pos c20] at H
          have ar : decide (1099511627776 < ((rd_T36 l0 aa).f2)) = true := decide_eq_true c20
          clear c20
          obtain rfl := Option.some.inj H
          have p127 : 0 ≤ (aa : Int) := of_decide_eq_true (by first | (with_reducible assumption) | assumption)
          have q127 : aa < (l0.length : Int) := of_decide_eq_true (by first | (with_reducible assumption) | assumption)
          obtain ⟨ad127, e127, ad, ae, af⟩ := at_T36 HR0.out aa p127 q127
          cases e127
          replace ad := (HB.out.cell (World.block_lt_of_cell? w _ ad)).trans ad
          replace ae := (HB.out.cell (World.block_lt_of_cell? w _ ae)).trans ae
          replace af := (HB.out.cell (World.block_lt_of_cell? w _ af)).trans af
          replace p127 := eq_true p127
          replace q127 := eq_true q127
          try go_wp2_with (first | ((with_reducible refine gate_dst (N := 4) rfl ?_); refine box_event ?hg (N := 4) ?hd (cs := #[.int .i64 0, .int .i64 0, .int .i64 0]) (t := 36) ?hr ?_; (case hd => rfl); (case hg => rfl); (case hr => first | (go_simp; done) | (go_simp; rfl)); intro ac hg w21 hbox hb; have ab := am (hbox); have al := am ((gT hg HB.out)); have an := am ((gT hg HB.out)); replace HB := am (sT HB.out hb); clear hb hbox hg; have aJ : w21.cell? ⟨ac, 0, none⟩ = some (.int .i64 0) := cT ab 0; have aK : w21.cell? ⟨ac, 1, none⟩ = some (.int .i64 0) := cT ab 1; have aL : w21.cell? ⟨ac, 2, none⟩ = some (.int .i64 0) := cT ab 2; have aM := blk_frozen ab.out 0; have aN := blk_frozen ab.out 1; have aO := blk_frozen ab.out 2))
          have n0_ : Aside0 ((((w21.setCell ⟨ac, 0, none⟩ (.int .i64 ((rd_T36 l0 aa).f0))).setCell ⟨ac, 1, none⟩ (.int .i64 ((rd_T36 l0 aa).f1))).setCell ⟨ac, 2, none⟩ (.int .i64 ((rd_T36 l0 aa).f2))).heap[ac]? = some (.cells #[.int .i64 ((rd_T36 l0 aa).f0), .int .i64 ((rd_T36 l0 aa).f1), .int .i64 ((rd_T36 l0 aa).f2)] 36 (0, 0))) := ⟨by (with_reducible repeat (first | apply bn | apply bd | apply ba)); refine blk_put (cs := #[.int .i64 ((rd_T36 l0 aa).f0), .int .i64 ((rd_T36 l0 aa).f1), .int .i64 0]) ?_ 2 _ rfl; (with_reducible repeat (first | apply bn | apply bd | apply ba)); refine blk_put (cs := #[.int .i64 ((rd_T36 l0 aa).f0), .int .i64 0, .int .i64 0]) ?_ 1 _ rfl; (with_reducible repeat (first | apply bn | apply bd | apply ba)); refine blk_put (cs := #[.int .i64 0, .int .i64 0, .int .i64 0]) ?_ 0 _ rfl; exact bT ab.out⟩
          have n1_ : Aside0 (Below w.heap.size w (((w21.setCell ⟨ac, 0, none⟩ (.int .i64 ((rd_T36 l0 aa).f0))).setCell ⟨ac, 1, none⟩ (.int .i64 ((rd_T36 l0 aa).f1))).setCell ⟨ac, 2, none⟩ (.int .i64 ((rd_T36 l0 aa).f2)))) := ⟨by repeat (first | (with_reducible first | exact HB.out | apply pA | apply pN | apply pD | refine eU ?_ (by assumption)) | exact HB.out)⟩
          (try clear ab)
          (try clear HB)
          generalize (((w21.setCell ⟨ac, 0, none⟩ (.int .i64 ((rd_T36 l0 aa).f0))).setCell ⟨ac, 1, none⟩ (.int .i64 ((rd_T36 l0 aa).f1))).setCell ⟨ac, 2, none⟩ (.int .i64 ((rd_T36 l0 aa).f2))) = w23 at n0_ n1_ ⊢
          have ab := n0_
          have HB := n1_
          clear n0_ n1_
          replace ab := am (blk_drew ab.out)
          replace HB := am (below_drew1 HB.out)
          refine start_ (n := 32) (S := fun w' => w'.cell? ⟨ac, 0, none⟩ = some (.int .i64 ((rd_T36 l0 aa).f0)) ∧ w'.cell? ⟨ac, 1, none⟩ = some (.int .i64 ((rd_T36 l0 aa).f1)) ∧ w'.cell? ⟨ac, 2, none⟩ = some (.int .i64 ((rd_T36 l0 aa).f2))) (ds := []) (bA 32 0) (by kernel_rfl) rfl (by kernel_rfl) ⟨cT ab 0, cT ab 1, cT ab 2⟩ (fun hHeld => ?_); refine with_tabW edges_Check.tab4 edges_Check.bits4 (fun HT_ HW_ => ?_)
          generalize w23.drew = w24 at ab HB hHeld ⊢
          refine pT 0 12 (bA 32 1) HT_.out ?_
          refine tT 1 13 (bA 32 3) HT_.out HW_.out hHeld ?_ (hy := by rintro w' ⟨s0, s1, s2⟩; go_simp; with_reducible rfl)
          refine pT 2 14 (bA 32 7) HT_.out ?_
          refine pT 3 15 (bA 32 15) HT_.out ?_
          refine pT 4 16 (bA 32 31) HT_.out ?_
          refine tT 5 17 (bA 32 63) HT_.out HW_.out hHeld ?_ (hy := by rintro w' ⟨s0, s1, s2⟩; go_simp; with_reducible rfl)
          refine pT 6 18 (bA 32 127) HT_.out ?_
          refine pT 7 19 (bA 32 255) HT_.out ?_
          refine pT 8 20 (bA 32 511) HT_.out ?_
          refine pT 9 21 (bA 32 1023) HT_.out ?_
          refine tT 10 22 (bA 32 2047) HT_.out HW_.out hHeld ?_ (hy := by rintro w' ⟨s0, s1, s2⟩; go_simp; with_reducible rfl)
          refine pT 11 23 (bA 32 4095) HT_.out ?_
          refine pT 12 24 (bA 32 8191) HT_.out ?_
          refine pT 13 25 (bA 32 16383) HT_.out ?_
          refine pT 14 26 (bA 32 32767) HT_.out ?_
          refine tT 15 27 (bA 32 65535) HT_.out HW_.out hHeld ?_ (hy := by rintro w' ⟨s0, s1, s2⟩; go_simp; with_reducible rfl)
          refine pT 16 28 (bA 32 131071) HT_.out ?_
          refine pT 17 29 (bA 32 262143) HT_.out ?_
          refine pT 18 30 (bA 32 524287) HT_.out ?_
          refine pU 19 31 (bA 32 1048575) HT_.out ?_
          refine pU 20 32 (bA 32 2097151) HT_.out ?_
          refine pU 21 33 (bA 32 4194303) HT_.out ?_
          refine pU 22 34 (bA 32 8388607) HT_.out ?_
          refine pU 23 35 (bA 32 16777215) HT_.out ?_
          refine pU 24 36 (bA 32 33554431) HT_.out ?_
          refine pU 25 37 (bA 32 67108863) HT_.out ?_
          refine pU 26 38 (bA 32 134217727) HT_.out ?_
          refine pU 27 39 (bA 32 268435455) HT_.out ?_
          refine pU 28 40 (bA 32 536870911) HT_.out ?_
          refine pU 29 41 (bA 32 1073741823) HT_.out ?_
          refine pU 30 42 (bA 32 2147483647) HT_.out ?_
          refine pT 31 43 (bA 32 4294967295) HT_.out ?_
          refine done_ (done_of HT_.out (by kernel_rfl)) ?_
          try go_wp2
          go_ret
          exact ⟨by first | rfl | (simp [errW_none, errW_some] <;> rfl) | (simp [*, errW_none, errW_some] <;> rfl), eT HB.out⟩
         ·rw [if_neg c20] at H
          have ar : decide (1099511627776 < ((rd_T36 l0 aa).f2)) = false := decide_eq_false c20
          clear c20
          by_cases c25 : aa > 0
          ·rw [if_pos c25] at H
           have au : decide (0 < aa) = true := decide_eq_true c25
           clear c25
           obtain ⟨ag, ao⟩ : ∃ j_ : Int, (wrap64 (aa - 1)) = j_ := ⟨_, rfl⟩
           replace H : (if 0 ≤ (ag) then (if (ag) < (l0.length : Int) then ((edges_order.f k1 ((rd_T36 l0 (ag)).f0) ((rd_T36 l0 (ag)).f1) ((rd_T36 l0 (ag)).f2) ((rd_T36 l0 aa).f0) ((rd_T36 l0 aa).f1) ((rd_T36 l0 aa).f2)).bind fun ak => (if ak ≥ 0 then (some 1) else (edges_Check.l0 k1 l0 l0 (l0.length : Int) (wrap64 (aa + 1))))) else (none)) else (none)) = some r := by first | (rw [ao] at H; exact H) | (simp only [ao] at H ⊢; exact H)
           have bj : (IntKind.i64.wrap (aa - 1)) = ag := (i64_w _).trans ao
           by_cases c27 : 0 ≤ (ag)
           ·rw [if_pos c27] at H
            have bk : decide (0 ≤ (ag)) = true := decide_eq_true c27
            clear c27
            by_cases c28 : (ag) < (l0.length : Int)
            ·rw [if_pos c28] at H
             have bl : decide ((ag) < (l0.length : Int)) = true := decide_eq_true c28
             clear c28
             replace H := Option.bind_eq_some_iff.mp H
             obtain ⟨ak, av, H⟩ := H
             replace H : (if ak ≥ 0 then (some 1) else (edges_Check.l0 k1 l0 l0 (l0.length : Int) (wrap64 (aa + 1)))) = some r := H
             have A29 := Aside0.mk av
             clear av
             by_cases c30 : ak ≥ 0
             ·rw [if_pos c30] at H
              have aw : decide (0 ≤ ak) = true := decide_eq_true c30
              clear c30
              obtain rfl := Option.some.inj H
              have p127 : 0 ≤ (aa : Int) := of_decide_eq_true (by first | (with_reducible assumption) | assumption)
              have q127 : aa < (l0.length : Int) := of_decide_eq_true (by first | (with_reducible assumption) | assumption)
              obtain ⟨ad127, e127, ad, ae, af⟩ := at_T36 HR0.out aa p127 q127
              cases e127
              replace ad := (HB.out.cell (World.block_lt_of_cell? w _ ad)).trans ad
              replace ae := (HB.out.cell (World.block_lt_of_cell? w _ ae)).trans ae
              replace af := (HB.out.cell (World.block_lt_of_cell? w _ af)).trans af
              replace p127 := eq_true p127
              replace q127 := eq_true q127
              try go_wp2_with (first | ((with_reducible refine gate_dst (N := 4) rfl ?_); refine box_event ?hg (N := 4) ?hd (cs := #[.int .i64 0, .int .i64 0, .int .i64 0]) (t := 36) ?hr ?_; (case hd => rfl); (case hg => rfl); (case hr => first | (go_simp; done) | (go_simp; rfl)); intro ac hg w31 hbox hb; have ab := am (hbox); have al := am ((gT hg HB.out)); have an := am ((gT hg HB.out)); replace HB := am (sT HB.out hb); clear hb hbox hg; have aP : w31.cell? ⟨ac, 0, none⟩ = some (.int .i64 0) := cT ab 0; have aQ : w31.cell? ⟨ac, 1, none⟩ = some (.int .i64 0) := cT ab 1; have aR : w31.cell? ⟨ac, 2, none⟩ = some (.int .i64 0) := cT ab 2; have aU := blk_frozen ab.out 0; have aV := blk_frozen ab.out 1; have aW := blk_frozen ab.out 2))
              have n0_ : Aside0 ((((w31.setCell ⟨ac, 0, none⟩ (.int .i64 ((rd_T36 l0 aa).f0))).setCell ⟨ac, 1, none⟩ (.int .i64 ((rd_T36 l0 aa).f1))).setCell ⟨ac, 2, none⟩ (.int .i64 ((rd_T36 l0 aa).f2))).heap[ac]? = some (.cells #[.int .i64 ((rd_T36 l0 aa).f0), .int .i64 ((rd_T36 l0 aa).f1), .int .i64 ((rd_T36 l0 aa).f2)] 36 (0, 0))) := ⟨by (with_reducible repeat (first | apply bn | apply bd | apply ba)); refine blk_put (cs := #[.int .i64 ((rd_T36 l0 aa).f0), .int .i64 ((rd_T36 l0 aa).f1), .int .i64 0]) ?_ 2 _ rfl; (with_reducible repeat (first | apply bn | apply bd | apply ba)); refine blk_put (cs := #[.int .i64 ((rd_T36 l0 aa).f0), .int .i64 0, .int .i64 0]) ?_ 1 _ rfl; (with_reducible repeat (first | apply bn | apply bd | apply ba)); refine blk_put (cs := #[.int .i64 0, .int .i64 0, .int .i64 0]) ?_ 0 _ rfl; exact bT ab.out⟩
              have n1_ : Aside0 (Below w.heap.size w (((w31.setCell ⟨ac, 0, none⟩ (.int .i64 ((rd_T36 l0 aa).f0))).setCell ⟨ac, 1, none⟩ (.int .i64 ((rd_T36 l0 aa).f1))).setCell ⟨ac, 2, none⟩ (.int .i64 ((rd_T36 l0 aa).f2)))) := ⟨by repeat (first | (with_reducible first | exact HB.out | apply pA | apply pN | apply pD | refine eU ?_ (by assumption)) | exact HB.out)⟩
              (try clear ab)
              (try clear HB)
              generalize (((w31.setCell ⟨ac, 0, none⟩ (.int .i64 ((rd_T36 l0 aa).f0))).setCell ⟨ac, 1, none⟩ (.int .i64 ((rd_T36 l0 aa).f1))).setCell ⟨ac, 2, none⟩ (.int .i64 ((rd_T36 l0 aa).f2))) = w33 at n0_ n1_ ⊢
              have ab := n0_
              have HB := n1_
              clear n0_ n1_
              replace ab := am (blk_drew ab.out)
              replace HB := am (below_drew1 HB.out)
              have p129 : 0 ≤ ((ag) : Int) := of_decide_eq_true (by first | (with_reducible assumption) | assumption)
              have q129 : (ag) < (l0.length : Int) := of_decide_eq_true (by first | (with_reducible assumption) | assumption)
              obtain ⟨ad129, e129, ah, ai, aj⟩ := at_T36 HR0.out (ag) p129 q129
              have hw129_2 := aj
              have hw129_1 := ai
              have hw129_0 := ah
              obtain rfl : ad127 = ad129 := (by injection e129)
              replace ah := (HB.out.cell (World.block_lt_of_cell? w _ ah)).trans ah
              replace ai := (HB.out.cell (World.block_lt_of_cell? w _ ai)).trans ai
              replace aj := (HB.out.cell (World.block_lt_of_cell? w _ aj)).trans aj
              replace p129 := eq_true p129
              replace q129 := eq_true q129
              refine start_ (n := 32) (S := fun w' => w'.cell? ⟨ac, 0, none⟩ = some (.int .i64 ((rd_T36 l0 aa).f0)) ∧ w'.cell? ⟨ac, 1, none⟩ = some (.int .i64 ((rd_T36 l0 aa).f1)) ∧ w'.cell? ⟨ac, 2, none⟩ = some (.int .i64 ((rd_T36 l0 aa).f2)) ∧ w'.cell? (ad127.add (((ag)).toNat * 3)) = some (.int .i64 ((rd_T36 l0 (ag)).f0)) ∧ w'.cell? ⟨(ad127.add (((ag)).toNat * 3)).block, (ad127.add (((ag)).toNat * 3)).off + 1, none⟩ = some (.int .i64 ((rd_T36 l0 (ag)).f1)) ∧ w'.cell? ⟨(ad127.add (((ag)).toNat * 3)).block, (ad127.add (((ag)).toNat * 3)).off + 2, none⟩ = some (.int .i64 ((rd_T36 l0 (ag)).f2))) (ds := []) (bA 32 0) (by kernel_rfl) rfl (by kernel_rfl) ⟨cT ab 0, cT ab 1, cT ab 2, ((HB.out.cell (World.block_lt_of_cell? w _ hw129_0)).trans hw129_0), ((HB.out.cell (World.block_lt_of_cell? w _ hw129_1)).trans hw129_1), ((HB.out.cell (World.block_lt_of_cell? w _ hw129_2)).trans hw129_2)⟩ (fun hHeld => ?_); refine with_tabW edges_Check.tab4 edges_Check.bits4 (fun HT_ HW_ => ?_)
              generalize w33.drew = w34 at ab HB ah ai aj hHeld ⊢
              refine pT 0 12 (bA 32 1) HT_.out ?_
              refine tT 1 13 (bA 32 3) HT_.out HW_.out hHeld ?_ (hy := by rintro w' ⟨s0, s1, s2, s3, s4, s5⟩; go_simp; with_reducible rfl)
              refine pT 2 14 (bA 32 7) HT_.out ?_
              refine pT 3 15 (bA 32 15) HT_.out ?_
              refine pT 4 16 (bA 32 31) HT_.out ?_
              refine tT 5 17 (bA 32 63) HT_.out HW_.out hHeld ?_ (hy := by rintro w' ⟨s0, s1, s2, s3, s4, s5⟩; go_simp; with_reducible rfl)
              refine pT 6 18 (bA 32 127) HT_.out ?_
              refine pT 7 19 (bA 32 255) HT_.out ?_
              refine pT 8 20 (bA 32 511) HT_.out ?_
              refine pT 9 21 (bA 32 1023) HT_.out ?_
              refine tT 10 22 (bA 32 2047) HT_.out HW_.out hHeld ?_ (hy := by rintro w' ⟨s0, s1, s2, s3, s4, s5⟩; go_simp; with_reducible rfl)
              refine pT 11 23 (bA 32 4095) HT_.out ?_
              refine pT 12 24 (bA 32 8191) HT_.out ?_
              refine pT 13 25 (bA 32 16383) HT_.out ?_
              refine pT 14 26 (bA 32 32767) HT_.out ?_
              refine tT 15 27 (bA 32 65535) HT_.out HW_.out hHeld ?_ (hy := by rintro w' ⟨s0, s1, s2, s3, s4, s5⟩; go_simp; with_reducible rfl)
              refine pT 16 28 (bA 32 131071) HT_.out ?_
              refine pT 17 29 (bA 32 262143) HT_.out ?_
              refine pT 18 30 (bA 32 524287) HT_.out ?_
              refine pT 19 31 (bA 32 1048575) HT_.out ?_
              refine pT 20 32 (bA 32 2097151) HT_.out ?_
              refine pT 21 33 (bA 32 4194303) HT_.out ?_
              refine pT 22 34 (bA 32 8388607) HT_.out ?_
              refine pT 23 35 (bA 32 16777215) HT_.out ?_
              refine pT 24 36 (bA 32 33554431) HT_.out ?_
              refine pT 25 37 (bA 32 67108863) HT_.out ?_
              refine tT 26 38 (bA 32 134217727) HT_.out HW_.out hHeld ?_ (hy := by rintro w' ⟨s0, s1, s2, s3, s4, s5⟩; go_simp; with_reducible rfl)
              refine tT 27 39 (bA 32 268435455) HT_.out HW_.out hHeld ?_ (hy := by rintro w' ⟨s0, s1, s2, s3, s4, s5⟩; go_simp; with_reducible rfl)
              refine oT 28 (bA 32 536870911) HT_.out fun K hK => ?_
              refine goes_ Try.func57 (by kernel_rfl) rfl #[.agg #[.int .i64 ((rd_T36 l0 (ag)).f0), .int .i64 ((rd_T36 l0 (ag)).f1), .int .i64 ((rd_T36 l0 (ag)).f2)], .agg #[.int .i64 ((rd_T36 l0 aa).f0), .int .i64 ((rd_T36 l0 aa).f1), .int .i64 ((rd_T36 l0 aa).f2)]] (by rfl) rfl rfl (by (try simp only [List.map_toArray, List.map_cons, List.map_nil]); first | done | (simp only [ao]; rfl) | rfl | (simp only [List.length_drop, List.length_take]; rfl)) ?_
              with_reducible refine (edges_order.calls k1 ((rd_T36 l0 (ag)).f0) ((rd_T36 l0 (ag)).f1) ((rd_T36 l0 (ag)).f2) ((rd_T36 l0 aa).f0) ((rd_T36 l0 aa).f1) ((rd_T36 l0 aa).f2) ak _ A29.out).mono ?_
              rintro e w35 ⟨rfl, hb⟩
              refine ⟨_, rfl, ?_⟩
              replace ab := am (bB ab.out hb)
              replace HB := am (sT HB.out hb)
              (try clear hb)
              (try clear hb2)
              (try clear hk)
              (try clear hi)
              refine hK.out _ _ ⟨cT ab 0, cT ab 1, cT ab 2, ((HB.out.cell (World.block_lt_of_cell? w _ hw129_0)).trans hw129_0), ((HB.out.cell (World.block_lt_of_cell? w _ hw129_1)).trans hw129_1), ((HB.out.cell (World.block_lt_of_cell? w _ hw129_2)).trans hw129_2)⟩ (fun hHeld => ?_)
              clear hK K
              refine mN 40 ?_
              refine pT 29 41 (bA 32 1073741823) HT_.out ?_
              refine pT 30 42 (bA 32 2147483647) HT_.out ?_
              refine pT 31 43 (bA 32 4294967295) HT_.out ?_
              refine done_ (done_of HT_.out (by kernel_rfl)) ?_
              try go_wp2
              go_ret
              exact ⟨by first | rfl | (simp [errW_none, errW_some] <;> rfl) | (simp only [← ao]; first | rfl | (simp [errW_none, errW_some] <;> rfl)) | (simp [*, errW_none, errW_some] <;> rfl), eT HB.out⟩
             ·rw [if_neg c30] at H
              have aw : decide (0 ≤ ak) = false := decide_eq_false c30
              clear c30
              have H' := Aside0.mk H
              clear H
              have p127 : 0 ≤ (aa : Int) := of_decide_eq_true (by first | (with_reducible assumption) | assumption)
              have q127 : aa < (l0.length : Int) := of_decide_eq_true (by first | (with_reducible assumption) | assumption)
              obtain ⟨ad127, e127, ad, ae, af⟩ := at_T36 HR0.out aa p127 q127
              cases e127
              replace ad := (HB.out.cell (World.block_lt_of_cell? w _ ad)).trans ad
              replace ae := (HB.out.cell (World.block_lt_of_cell? w _ ae)).trans ae
              replace af := (HB.out.cell (World.block_lt_of_cell? w _ af)).trans af
              replace p127 := eq_true p127
              replace q127 := eq_true q127
              try go_wp2_with (first | ((with_reducible refine gate_dst (N := 4) rfl ?_); refine box_event ?hg (N := 4) ?hd (cs := #[.int .i64 0, .int .i64 0, .int .i64 0]) (t := 36) ?hr ?_; (case hd => rfl); (case hg => rfl); (case hr => first | (go_simp; done) | (go_simp; rfl)); intro ac hg w36 hbox hb; have ab := am (hbox); have al := am ((gT hg HB.out)); have an := am ((gT hg HB.out)); replace HB := am (sT HB.out hb); clear hb hbox hg; have aX : w36.cell? ⟨ac, 0, none⟩ = some (.int .i64 0) := cT ab 0; have aY : w36.cell? ⟨ac, 1, none⟩ = some (.int .i64 0) := cT ab 1; have aZ : w36.cell? ⟨ac, 2, none⟩ = some (.int .i64 0) := cT ab 2; have a1 := blk_frozen ab.out 0; have a2 := blk_frozen ab.out 1; have a3 := blk_frozen ab.out 2))
              have n0_ : Aside0 ((((w36.setCell ⟨ac, 0, none⟩ (.int .i64 ((rd_T36 l0 aa).f0))).setCell ⟨ac, 1, none⟩ (.int .i64 ((rd_T36 l0 aa).f1))).setCell ⟨ac, 2, none⟩ (.int .i64 ((rd_T36 l0 aa).f2))).heap[ac]? = some (.cells #[.int .i64 ((rd_T36 l0 aa).f0), .int .i64 ((rd_T36 l0 aa).f1), .int .i64 ((rd_T36 l0 aa).f2)] 36 (0, 0))) := ⟨by (with_reducible repeat (first | apply bn | apply bd | apply ba)); refine blk_put (cs := #[.int .i64 ((rd_T36 l0 aa).f0), .int .i64 ((rd_T36 l0 aa).f1), .int .i64 0]) ?_ 2 _ rfl; (with_reducible repeat (first | apply bn | apply bd | apply ba)); refine blk_put (cs := #[.int .i64 ((rd_T36 l0 aa).f0), .int .i64 0, .int .i64 0]) ?_ 1 _ rfl; (with_reducible repeat (first | apply bn | apply bd | apply ba)); refine blk_put (cs := #[.int .i64 0, .int .i64 0, .int .i64 0]) ?_ 0 _ rfl; exact bT ab.out⟩
              have n1_ : Aside0 (Below w.heap.size w (((w36.setCell ⟨ac, 0, none⟩ (.int .i64 ((rd_T36 l0 aa).f0))).setCell ⟨ac, 1, none⟩ (.int .i64 ((rd_T36 l0 aa).f1))).setCell ⟨ac, 2, none⟩ (.int .i64 ((rd_T36 l0 aa).f2)))) := ⟨by repeat (first | (with_reducible first | exact HB.out | apply pA | apply pN | apply pD | refine eU ?_ (by assumption)) | exact HB.out)⟩
              (try clear ab)
              (try clear HB)
              generalize (((w36.setCell ⟨ac, 0, none⟩ (.int .i64 ((rd_T36 l0 aa).f0))).setCell ⟨ac, 1, none⟩ (.int .i64 ((rd_T36 l0 aa).f1))).setCell ⟨ac, 2, none⟩ (.int .i64 ((rd_T36 l0 aa).f2))) = w38 at n0_ n1_ ⊢
              have ab := n0_
              have HB := n1_
              clear n0_ n1_
              replace ab := am (blk_drew ab.out)
              replace HB := am (below_drew1 HB.out)
              have p129 : 0 ≤ ((ag) : Int) := of_decide_eq_true (by first | (with_reducible assumption) | assumption)
              have q129 : (ag) < (l0.length : Int) := of_decide_eq_true (by first | (with_reducible assumption) | assumption)
              obtain ⟨ad129, e129, ah, ai, aj⟩ := at_T36 HR0.out (ag) p129 q129
              have hw129_2 := aj
              have hw129_1 := ai
              have hw129_0 := ah
              obtain rfl : ad127 = ad129 := (by injection e129)
              replace ah := (HB.out.cell (World.block_lt_of_cell? w _ ah)).trans ah
              replace ai := (HB.out.cell (World.block_lt_of_cell? w _ ai)).trans ai
              replace aj := (HB.out.cell (World.block_lt_of_cell? w _ aj)).trans aj
              replace p129 := eq_true p129
              replace q129 := eq_true q129
              refine start_ (n := 32) (S := fun w' => w'.cell? ⟨ac, 0, none⟩ = some (.int .i64 ((rd_T36 l0 aa).f0)) ∧ w'.cell? ⟨ac, 1, none⟩ = some (.int .i64 ((rd_T36 l0 aa).f1)) ∧ w'.cell? ⟨ac, 2, none⟩ = some (.int .i64 ((rd_T36 l0 aa).f2)) ∧ w'.cell? (ad127.add (((ag)).toNat * 3)) = some (.int .i64 ((rd_T36 l0 (ag)).f0)) ∧ w'.cell? ⟨(ad127.add (((ag)).toNat * 3)).block, (ad127.add (((ag)).toNat * 3)).off + 1, none⟩ = some (.int .i64 ((rd_T36 l0 (ag)).f1)) ∧ w'.cell? ⟨(ad127.add (((ag)).toNat * 3)).block, (ad127.add (((ag)).toNat * 3)).off + 2, none⟩ = some (.int .i64 ((rd_T36 l0 (ag)).f2))) (ds := []) (bA 32 0) (by kernel_rfl) rfl (by kernel_rfl) ⟨cT ab 0, cT ab 1, cT ab 2, ((HB.out.cell (World.block_lt_of_cell? w _ hw129_0)).trans hw129_0), ((HB.out.cell (World.block_lt_of_cell? w _ hw129_1)).trans hw129_1), ((HB.out.cell (World.block_lt_of_cell? w _ hw129_2)).trans hw129_2)⟩ (fun hHeld => ?_); refine with_tabW edges_Check.tab4 edges_Check.bits4 (fun HT_ HW_ => ?_)
              generalize w38.drew = w39 at ab HB ah ai aj hHeld ⊢
              refine pT 0 12 (bA 32 1) HT_.out ?_
              refine tT 1 13 (bA 32 3) HT_.out HW_.out hHeld ?_ (hy := by rintro w' ⟨s0, s1, s2, s3, s4, s5⟩; go_simp; with_reducible rfl)
              refine pT 2 14 (bA 32 7) HT_.out ?_
              refine pT 3 15 (bA 32 15) HT_.out ?_
              refine pT 4 16 (bA 32 31) HT_.out ?_
              refine tT 5 17 (bA 32 63) HT_.out HW_.out hHeld ?_ (hy := by rintro w' ⟨s0, s1, s2, s3, s4, s5⟩; go_simp; with_reducible rfl)
              refine pT 6 18 (bA 32 127) HT_.out ?_
              refine pT 7 19 (bA 32 255) HT_.out ?_
              refine pT 8 20 (bA 32 511) HT_.out ?_
              refine pT 9 21 (bA 32 1023) HT_.out ?_
              refine tT 10 22 (bA 32 2047) HT_.out HW_.out hHeld ?_ (hy := by rintro w' ⟨s0, s1, s2, s3, s4, s5⟩; go_simp; with_reducible rfl)
              refine pT 11 23 (bA 32 4095) HT_.out ?_
              refine pT 12 24 (bA 32 8191) HT_.out ?_
              refine pT 13 25 (bA 32 16383) HT_.out ?_
              refine pT 14 26 (bA 32 32767) HT_.out ?_
              refine tT 15 27 (bA 32 65535) HT_.out HW_.out hHeld ?_ (hy := by rintro w' ⟨s0, s1, s2, s3, s4, s5⟩; go_simp; with_reducible rfl)
              refine pT 16 28 (bA 32 131071) HT_.out ?_
              refine pT 17 29 (bA 32 262143) HT_.out ?_
              refine pT 18 30 (bA 32 524287) HT_.out ?_
              refine pT 19 31 (bA 32 1048575) HT_.out ?_
              refine pT 20 32 (bA 32 2097151) HT_.out ?_
              refine pT 21 33 (bA 32 4194303) HT_.out ?_
              refine pT 22 34 (bA 32 8388607) HT_.out ?_
              refine pT 23 35 (bA 32 16777215) HT_.out ?_
              refine pT 24 36 (bA 32 33554431) HT_.out ?_
              refine pT 25 37 (bA 32 67108863) HT_.out ?_
              refine tT 26 38 (bA 32 134217727) HT_.out HW_.out hHeld ?_ (hy := by rintro w' ⟨s0, s1, s2, s3, s4, s5⟩; go_simp; with_reducible rfl)
              refine tT 27 39 (bA 32 268435455) HT_.out HW_.out hHeld ?_ (hy := by rintro w' ⟨s0, s1, s2, s3, s4, s5⟩; go_simp; with_reducible rfl)
              refine oT 28 (bA 32 536870911) HT_.out fun K hK => ?_
              refine goes_ Try.func57 (by kernel_rfl) rfl #[.agg #[.int .i64 ((rd_T36 l0 (ag)).f0), .int .i64 ((rd_T36 l0 (ag)).f1), .int .i64 ((rd_T36 l0 (ag)).f2)], .agg #[.int .i64 ((rd_T36 l0 aa).f0), .int .i64 ((rd_T36 l0 aa).f1), .int .i64 ((rd_T36 l0 aa).f2)]] (by rfl) rfl rfl (by (try simp only [List.map_toArray, List.map_cons, List.map_nil]); first | done | (simp only [ao]; rfl) | rfl | (simp only [List.length_drop, List.length_take]; rfl)) ?_
              with_reducible refine (edges_order.calls k1 ((rd_T36 l0 (ag)).f0) ((rd_T36 l0 (ag)).f1) ((rd_T36 l0 (ag)).f2) ((rd_T36 l0 aa).f0) ((rd_T36 l0 aa).f1) ((rd_T36 l0 aa).f2) ak _ A29.out).mono ?_
              rintro e w40 ⟨rfl, hb⟩
              refine ⟨_, rfl, ?_⟩
              replace ab := am (bB ab.out hb)
              replace HB := am (sT HB.out hb)
              (try clear hb)
              (try clear hb2)
              (try clear hk)
              (try clear hi)
              refine hK.out _ _ ⟨cT ab 0, cT ab 1, cT ab 2, ((HB.out.cell (World.block_lt_of_cell? w _ hw129_0)).trans hw129_0), ((HB.out.cell (World.block_lt_of_cell? w _ hw129_1)).trans hw129_1), ((HB.out.cell (World.block_lt_of_cell? w _ hw129_2)).trans hw129_2)⟩ (fun hHeld => ?_)
              clear hK K
              refine mN 40 ?_
              refine pT 29 41 (bA 32 1073741823) HT_.out ?_
              refine pT 30 42 (bA 32 2147483647) HT_.out ?_
              refine pT 31 43 (bA 32 4294967295) HT_.out ?_
              refine done_ (done_of HT_.out (by kernel_rfl)) ?_
              try go_wp2
              go_roundg k1
              case measure => have := HK1.out; omega
              case rel => exact ⟨(wrap64 (aa + 1)), (by first | rfl | (simp; done) | (simp [*]; done)), H', ⟨by have := HK1.out; omega⟩, ⟨eT HB.out⟩⟩
            ·rw [if_neg c28] at H
             exact absurd H (by simp)
           ·rw [if_neg c27] at H
            exact absurd H (by simp)
          ·rw [if_neg c25] at H
           have au : decide (0 < aa) = false := decide_eq_false c25
           clear c25
           have H' := Aside0.mk H
           clear H
           have p127 : 0 ≤ (aa : Int) := of_decide_eq_true (by first | (with_reducible assumption) | assumption)
           have q127 : aa < (l0.length : Int) := of_decide_eq_true (by first | (with_reducible assumption) | assumption)
           obtain ⟨ad127, e127, ad, ae, af⟩ := at_T36 HR0.out aa p127 q127
           cases e127
           replace ad := (HB.out.cell (World.block_lt_of_cell? w _ ad)).trans ad
           replace ae := (HB.out.cell (World.block_lt_of_cell? w _ ae)).trans ae
           replace af := (HB.out.cell (World.block_lt_of_cell? w _ af)).trans af
           replace p127 := eq_true p127
           replace q127 := eq_true q127
           try go_wp2_with (first | ((with_reducible refine gate_dst (N := 4) rfl ?_); refine box_event ?hg (N := 4) ?hd (cs := #[.int .i64 0, .int .i64 0, .int .i64 0]) (t := 36) ?hr ?_; (case hd => rfl); (case hg => rfl); (case hr => first | (go_simp; done) | (go_simp; rfl)); intro ac hg w41 hbox hb; have ab := am (hbox); have al := am ((gT hg HB.out)); have an := am ((gT hg HB.out)); replace HB := am (sT HB.out hb); clear hb hbox hg; have a4 : w41.cell? ⟨ac, 0, none⟩ = some (.int .i64 0) := cT ab 0; have a5 : w41.cell? ⟨ac, 1, none⟩ = some (.int .i64 0) := cT ab 1; have a6 : w41.cell? ⟨ac, 2, none⟩ = some (.int .i64 0) := cT ab 2; have a7 := blk_frozen ab.out 0; have a8 := blk_frozen ab.out 1; have a9 := blk_frozen ab.out 2))
           have n0_ : Aside0 ((((w41.setCell ⟨ac, 0, none⟩ (.int .i64 ((rd_T36 l0 aa).f0))).setCell ⟨ac, 1, none⟩ (.int .i64 ((rd_T36 l0 aa).f1))).setCell ⟨ac, 2, none⟩ (.int .i64 ((rd_T36 l0 aa).f2))).heap[ac]? = some (.cells #[.int .i64 ((rd_T36 l0 aa).f0), .int .i64 ((rd_T36 l0 aa).f1), .int .i64 ((rd_T36 l0 aa).f2)] 36 (0, 0))) := ⟨by (with_reducible repeat (first | apply bn | apply bd | apply ba)); refine blk_put (cs := #[.int .i64 ((rd_T36 l0 aa).f0), .int .i64 ((rd_T36 l0 aa).f1), .int .i64 0]) ?_ 2 _ rfl; (with_reducible repeat (first | apply bn | apply bd | apply ba)); refine blk_put (cs := #[.int .i64 ((rd_T36 l0 aa).f0), .int .i64 0, .int .i64 0]) ?_ 1 _ rfl; (with_reducible repeat (first | apply bn | apply bd | apply ba)); refine blk_put (cs := #[.int .i64 0, .int .i64 0, .int .i64 0]) ?_ 0 _ rfl; exact bT ab.out⟩
           have n1_ : Aside0 (Below w.heap.size w (((w41.setCell ⟨ac, 0, none⟩ (.int .i64 ((rd_T36 l0 aa).f0))).setCell ⟨ac, 1, none⟩ (.int .i64 ((rd_T36 l0 aa).f1))).setCell ⟨ac, 2, none⟩ (.int .i64 ((rd_T36 l0 aa).f2)))) := ⟨by repeat (first | (with_reducible first | exact HB.out | apply pA | apply pN | apply pD | refine eU ?_ (by assumption)) | exact HB.out)⟩
           (try clear ab)
           (try clear HB)
           generalize (((w41.setCell ⟨ac, 0, none⟩ (.int .i64 ((rd_T36 l0 aa).f0))).setCell ⟨ac, 1, none⟩ (.int .i64 ((rd_T36 l0 aa).f1))).setCell ⟨ac, 2, none⟩ (.int .i64 ((rd_T36 l0 aa).f2))) = w43 at n0_ n1_ ⊢
           have ab := n0_
           have HB := n1_
           clear n0_ n1_
           replace ab := am (blk_drew ab.out)
           replace HB := am (below_drew1 HB.out)
           refine start_ (n := 32) (S := fun w' => w'.cell? ⟨ac, 0, none⟩ = some (.int .i64 ((rd_T36 l0 aa).f0)) ∧ w'.cell? ⟨ac, 1, none⟩ = some (.int .i64 ((rd_T36 l0 aa).f1)) ∧ w'.cell? ⟨ac, 2, none⟩ = some (.int .i64 ((rd_T36 l0 aa).f2))) (ds := []) (bA 32 0) (by kernel_rfl) rfl (by kernel_rfl) ⟨cT ab 0, cT ab 1, cT ab 2⟩ (fun hHeld => ?_); refine with_tabW edges_Check.tab4 edges_Check.bits4 (fun HT_ HW_ => ?_)
           generalize w43.drew = w44 at ab HB hHeld ⊢
           refine pT 0 12 (bA 32 1) HT_.out ?_
           refine tT 1 13 (bA 32 3) HT_.out HW_.out hHeld ?_ (hy := by rintro w' ⟨s0, s1, s2⟩; go_simp; with_reducible rfl)
           refine pT 2 14 (bA 32 7) HT_.out ?_
           refine pT 3 15 (bA 32 15) HT_.out ?_
           refine pT 4 16 (bA 32 31) HT_.out ?_
           refine tT 5 17 (bA 32 63) HT_.out HW_.out hHeld ?_ (hy := by rintro w' ⟨s0, s1, s2⟩; go_simp; with_reducible rfl)
           refine pT 6 18 (bA 32 127) HT_.out ?_
           refine pT 7 19 (bA 32 255) HT_.out ?_
           refine pT 8 20 (bA 32 511) HT_.out ?_
           refine pT 9 21 (bA 32 1023) HT_.out ?_
           refine tT 10 22 (bA 32 2047) HT_.out HW_.out hHeld ?_ (hy := by rintro w' ⟨s0, s1, s2⟩; go_simp; with_reducible rfl)
           refine pT 11 23 (bA 32 4095) HT_.out ?_
           refine pT 12 24 (bA 32 8191) HT_.out ?_
           refine pT 13 25 (bA 32 16383) HT_.out ?_
           refine pT 14 26 (bA 32 32767) HT_.out ?_
           refine tT 15 27 (bA 32 65535) HT_.out HW_.out hHeld ?_ (hy := by rintro w' ⟨s0, s1, s2⟩; go_simp; with_reducible rfl)
           refine pT 16 28 (bA 32 131071) HT_.out ?_
           refine pT 17 29 (bA 32 262143) HT_.out ?_
           refine pT 18 30 (bA 32 524287) HT_.out ?_
           refine pT 19 31 (bA 32 1048575) HT_.out ?_
           refine pT 20 32 (bA 32 2097151) HT_.out ?_
           refine pT 21 33 (bA 32 4194303) HT_.out ?_
           refine pU 22 34 (bA 32 8388607) HT_.out ?_
           refine pU 23 35 (bA 32 16777215) HT_.out ?_
           refine pU 24 36 (bA 32 33554431) HT_.out ?_
           refine pU 25 37 (bA 32 67108863) HT_.out ?_
           refine pU 26 38 (bA 32 134217727) HT_.out ?_
           refine pU 27 39 (bA 32 268435455) HT_.out ?_
           refine pU 28 40 (bA 32 536870911) HT_.out ?_
           refine pU 29 41 (bA 32 1073741823) HT_.out ?_
           refine pT 30 42 (bA 32 2147483647) HT_.out ?_
           refine pT 31 43 (bA 32 4294967295) HT_.out ?_
           refine done_ (done_of HT_.out (by kernel_rfl)) ?_
           try go_wp2
           go_roundg k1
           case measure => have := HK1.out; omega
           case rel => exact ⟨(wrap64 (aa + 1)), (by first | rfl | (simp; done) | (simp [*]; done)), H', ⟨by have := HK1.out; omega⟩, ⟨eT HB.out⟩⟩
     ·rw [if_neg c4] at H
      exact absurd H (by simp)
    ·rw [if_neg c3] at H
     exact absurd H (by simp)
   ·rw [if_neg c2] at H
    have a_ : decide (aa < (l0.length : Int)) = false := decide_eq_false c2
    clear c2
    obtain rfl := Option.some.inj H
    go_wp2
    go_ret
    exact ⟨by first | rfl | (simp [errW_none, errW_some] <;> rfl) | (simp [*, errW_none, errW_some] <;> rfl), eT HB.out⟩

end Go.Proofs.Ytpiamehededilaa.P
