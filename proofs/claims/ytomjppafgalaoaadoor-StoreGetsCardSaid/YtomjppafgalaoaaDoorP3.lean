-- Written by this project's own program (wip/tools/hp.py), driving the kit's print; hand texts among it. Not trusted: Lean checks it.
-- half the indentation
import Derived.Test.YtomjppafgalaoaaDoorThin
import Derived.Test.YtomjppafgalaoaaDoorP0
namespace Go.Proofs.YtomjppafgalaoaaDoor.P
open Go.RowKit Go.Proofs.YtomjppafgalaoaaDoorW.PrintWords Go.Proofs.YtomjppafgalaoaaDoorW.PrintLast Go.Proofs.YtomjppafgalaoaaDoorW.PrintMore
attribute [local go_sem] max2_int min2_int max_two min_two max_three min_three max_four min_four   -- for this text's walks alone
set_option linter.unusedVariables false
set_option linter.unusedSimpArgs false

/-! ### graftwoodlaw01_Few: function 17 -/
def graftwoodlaw01_Few.f (a0 : ByteArray) : Option (ByteArray) := if (a0.size : Int) > 400 then (if 0 ≤ 400 then (if 400 ≤ (a0.size : Int) then (some (a0.extract 0 400)) else (none)) else (none)) else (some a0)
set_option maxHeartbeats 8000000 in
set_option maxRecDepth 100000 in
theorem graftwoodlaw01_Few.calls (a0 : ByteArray) (r : ByteArray) (w : World) (h : graftwoodlaw01_Few.f a0 = some r) :
  Calls Tryd.prog 17 #[.string a0] w fun e w' => e = .returned (.string r) ∧ Drawn0 w w' := by
 have H : (if (a0.size : Int) > 400 then (if 0 ≤ 400 then (if 400 ≤ (a0.size : Int) then (some (a0.extract 0 400)) else (none)) else (none)) else (some a0)) = some r := h
 clear h
 by_cases c2 : (a0.size : Int) > 400
 ·rw [if_pos c2] at H
  have a2 : decide (400 < (a0.size : Int)) = true := decide_eq_true c2
  have bb : decide (400 < a0.size) = true := decide_eq_true (by omega)
  clear c2
  by_cases c3 : 0 ≤ 400
  ·rw [if_pos c3] at H
   have bc := eq_true c3
   have b_ : decide (0 ≤ 400) = true := decide_eq_true c3
   clear c3
   by_cases c4 : 400 ≤ (a0.size : Int)
   ·rw [if_pos c4] at H
    have bp := eq_true c4
    have ca : decide (400 ≤ (a0.size : Int)) = true := decide_eq_true c4
    clear c4
    obtain rfl := Option.some.inj H
    go_enter Tryd.func17, Tryd.ntmps17
    go_wp2
    go_ret
    exact ⟨by first | rfl | (simp; done) | (simp [*]; done), by repeat (first | exact Drawn0.refl _ | apply Drawn0.step)⟩
   ·rw [if_neg c4] at H
    exact absurd H (by simp)
  ·rw [if_neg c3] at H
   exact absurd H (by simp)
 ·rw [if_neg c2] at H
  have a2 : decide (400 < (a0.size : Int)) = false := decide_eq_false c2
  have bb : decide (400 < a0.size) = false := decide_eq_false (by omega)
  clear c2
  obtain rfl := Option.some.inj H
  go_enter Tryd.func17, Tryd.ntmps17
  go_wp2
  go_ret
  exact ⟨by first | rfl | (simp; done) | (simp [*]; done), by repeat (first | exact Drawn0.refl _ | apply Drawn0.step)⟩

/-! ### graftwoodlaw05_One: function 8 -/
def graftwoodlaw05_One.f (a0_0 : ByteArray) (a0_1 : ByteArray) : Option (ByteArray × ByteArray) := (graftwoodlaw01_Few.f a0_0).bind fun aG => ((graftwoodlaw01_Few.f a0_1).bind fun aH => (some (aG, aH)))
def graftwoodlaw05_One.T1 : Bool × List (List Nat × List Nat) := (true, [([], []), ([0], [0]), ([1], [1]), ([], []), ([3], [3]), ([4, 2], [4]), ([2, 5], [2, 5]), ([6, 5, 0, 1, 2, 3, 4, 5, 6], [6])])
def graftwoodlaw05_One.B1 : List Nat := [0, 1, 3, 0, 8, 31, 63, 127]
theorem graftwoodlaw05_One.tab1 : rtab .any (opsOf Tryd.f8 1) = graftwoodlaw05_One.T1 := by kernel_rfl
theorem graftwoodlaw05_One.bits1 : waitsOk graftwoodlaw05_One.T1.2 graftwoodlaw05_One.B1 = true := by kernel_rfl
set_option maxHeartbeats 8000000 in
set_option maxRecDepth 100000 in
theorem graftwoodlaw05_One.calls (a0_0 : ByteArray) (a0_1 : ByteArray) (r1 : ByteArray) (r2 : ByteArray) (w : World) (h : graftwoodlaw05_One.f a0_0 a0_1 = some (r1, r2)) :
  Calls Tryd.prog 8 #[.agg #[.string a0_0, .string a0_1]] w fun e w' => e = .returned (.agg #[.string r1, .string r2]) ∧ Below w.heap.size w w' := by
 have hu27 := Tryd.underlying27
 have HB := am (Below.refl w.heap.size w)
 have H : ((graftwoodlaw01_Few.f a0_0).bind fun aG => ((graftwoodlaw01_Few.f a0_1).bind fun aH => (some (aG, aH)))) = some (r1, r2) := h
 clear h
 replace H := Option.bind_eq_some_iff.mp H
 obtain ⟨aG, A20, H⟩ := H
 replace H : ((graftwoodlaw01_Few.f a0_1).bind fun aH => (some (aG, aH))) = some (r1, r2) := H
 have A2 := Aside0.mk A20
 clear A20
 replace H := Option.bind_eq_some_iff.mp H
 obtain ⟨aH, A30, H⟩ := H
 replace H : (some (aG, aH)) = some (r1, r2) := H
 have A3 := Aside0.mk A30
 clear A30
 simp only [Option.some.injEq, Prod.mk.injEq] at H
 obtain ⟨rfl, rfl⟩ := H
 go_enter Tryd.func8, Tryd.ntmps8
 try go_wp2_with (first | ((with_reducible refine gate_dst (N := 1) rfl ?_); refine box_event ?hg (N := 1) ?hd (cs := #[.string a0_0, .string a0_1]) (t := 27) ?hr ?_; (case hd => rfl); (case hg => rfl); (case hr => first | (go_simp; done) | (go_simp; rfl)); intro a9 hg w4 hbox hb; have ao := am (hbox); have ch := am ((gT hg HB.out)); have ci := am ((gT hg HB.out)); replace HB := am (sT HB.out hb); clear hb hbox hg) | ((with_reducible refine gate_dst (N := 2) rfl ?_); refine box_event ?hg (N := 2) ?hd (cs := #[.string (⟨#[]⟩ : ByteArray), .string (⟨#[]⟩ : ByteArray)]) (t := 27) ?hr ?_; (case hd => rfl); (case hg => rfl); (case hr => first | (go_simp; done) | (go_simp; rfl)); intro az hg w5 hbox hb; have ax := am (hbox); have cj := am ((gT hg HB.out)); have ck := am ((gT hg HB.out)); have al := am ((nT ao.out hg)); have aE := am ((mT ao.out hg)); replace ao := am (bB ao.out hb); replace HB := am (sT HB.out hb); clear hb hbox hg))
 replace ao := am (blk_drew ao.out)
 replace ax := am (blk_drew ax.out)
 replace HB := am (below_drew1 HB.out)
 refine start_ (n := 8) (S := fun w' => w'.cell? ⟨a9, 0, none⟩ = some (.string a0_0) ∧ w'.cell? ⟨a9, 1, none⟩ = some (.string a0_1)) (ds := []) (bA 8 0) (by kernel_rfl) rfl (by kernel_rfl) ⟨cT ao 0, cT ao 1⟩ (fun hHeld => ?_); refine with_tabW graftwoodlaw05_One.tab1 graftwoodlaw05_One.bits1 (fun HT_ HW_ => ?_)
 generalize w5.drew = w6 at ao ax HB hHeld ⊢
 refine pT 0 3 (bA 8 1) HT_.out ?_
 refine pT 3 6 (bA 8 9) HT_.out ?_
 refine tT 1 4 (bA 8 11) HT_.out HW_.out hHeld ?_ (hy := by rintro w' ⟨s0, s1⟩; go_simp; with_reducible rfl)
 refine tT 4 7 (bA 8 27) HT_.out HW_.out hHeld ?_ (hy := by rintro w' ⟨s0, s1⟩; go_simp; with_reducible rfl)
 refine oT 2 (bA 8 31) HT_.out fun K hK => ?_
 refine gS Tryd.func17 #[.string a0_0] ?_
 with_reducible refine (graftwoodlaw01_Few.calls a0_0 aG _ A2.out).mono ?_
 rintro e w' ⟨rfl, ⟨nd, rfl⟩⟩
 refine ⟨_, rfl, ?_⟩
 refine hK.out _ _ ⟨cT ao 0, cT ao 1⟩ (fun hHeld => ?_)
 clear hK K
 refine mN 5 ?_
 refine oT 5 (bA 8 63) HT_.out fun K hK => ?_
 refine gS Tryd.func17 #[.string a0_1] ?_
 with_reducible refine (graftwoodlaw01_Few.calls a0_1 aH _ A3.out).mono ?_
 rintro e w' ⟨rfl, ⟨nd, rfl⟩⟩
 refine ⟨_, rfl, ?_⟩
 refine hK.out _ _ ⟨cT ao 0, cT ao 1⟩ (fun hHeld => ?_)
 clear hK K
 refine mN 8 ?_
 refine pT 6 9 (bA 8 127) HT_.out ?_
 refine oT 7 (bA 8 255) HT_.out fun K hK => ?_
 have hs7 : w6.cell? ⟨az, 0, none⟩ = some (.string (⟨#[]⟩ : ByteArray)) := cT ax 0
 have cP := blk_frozen ax.out 0
 have cb := al.out
 have cc := aE.out
 have hs8 : w6.cell? ⟨az, 1, none⟩ = some (.string (⟨#[]⟩ : ByteArray)) := cT ax 1
 have cQ := blk_frozen ax.out 1
 have cd := al.out
 have ce := aE.out
 refine skip_ (w1 := ?_) (by rfl) rfl ?_ ?_
 rotate_left
 ·go_simp
  rfl
 refine hK.out _ _ ⟨((cell_far (p := ⟨az, _, none⟩) al.out _).trans (((cell_far (p := ⟨az, _, none⟩) al.out _).trans (hHeld.1)))), ((cell_far (p := ⟨az, _, none⟩) al.out _).trans (((cell_far (p := ⟨az, _, none⟩) al.out _).trans (hHeld.2))))⟩ (fun hHeld => ?_)
 clear hK K
 refine done_ (done_of HT_.out (by kernel_rfl)) ?_
 try go_wp2
 refine bodyPost_ret (results_cell_row rfl _ _ az 27 #[.string aG, .string aH] (0, 0) _ rfl (by (with_reducible repeat (first | apply bn | apply bd | apply ba)); refine blk_put (cs := #[.string aG, .string (⟨#[]⟩ : ByteArray)]) ?_ 1 _ rfl; (with_reducible repeat (first | apply bn | apply bd | apply ba)); refine blk_put (cs := #[.string (⟨#[]⟩ : ByteArray), .string (⟨#[]⟩ : ByteArray)]) ?_ 0 _ rfl; exact bT ax.out) Tryd.underlying27 rfl (by kernel_rfl)) rfl ?_
 exact ⟨by first | rfl | (simp [errW_none, errW_some] <;> rfl) | (simp [*, errW_none, errW_some] <;> rfl), by repeat (first | (with_reducible first | exact HB.out | apply pA | apply pN | apply pD | refine eU ?_ (by assumption)) | exact HB.out)⟩

/-! ### graftwoodlaw05_Few: function 15 -/
def graftwoodlaw05_Few.l0 : Nat → List (S27) → List (S27) → Int → Option ((List (S27)))
 | 0, _, _, _ => none
 | k + 1, x0, x3, x4 => if x4 < (x0.length : Int) then (if x4 < 24 then (if 0 ≤ x4 then ((graftwoodlaw05_One.f ((rd_T27 x0 x4).f0) ((rd_T27 x0 x4).f1)).bind fun bt106 => (if x3.length < 4398046511104 then (graftwoodlaw05_Few.l0 k x0 (x3 ++ [(⟨bt106.1, bt106.2⟩ : S27)]) (wrap64 (x4 + 1))) else (none))) else (none)) else (some x3)) else (some x3)
def graftwoodlaw05_Few.f (k : Nat) (l0 : List (S27)) : Option ((List (S27))) := graftwoodlaw05_Few.l0 k l0 ([] : List (S27)) 0
theorem graftwoodlaw05_Few.mono_l : ∀ k, (∀ y0 y1 y2, LeO (graftwoodlaw05_Few.l0 k y0 y1 y2) (graftwoodlaw05_Few.l0 (k + 1) y0 y1 y2))
 | 0 => fun _ _ _ r h => by simp [graftwoodlaw05_Few.l0] at h
 | k + 1 => by
  have ih0 := graftwoodlaw05_Few.mono_l k
  ·intro y0 y1 y2
   unfold graftwoodlaw05_Few.l0
   repeat' first
   | (with_reducible exact ih0 _ _ _)
   | (with_reducible exact LeO.refl _)
   | (with_reducible exact LeO.none _)
   | (with_reducible refine LeO.ite ?_ ?_)
   | (with_reducible refine LeO.bind ?_ (fun _ => ?_))
   | exact ih0 _ _ _
   | exact LeO.none _
   | refine LeO.ite ?_ ?_
   | refine LeO.bind ?_ (fun _ => ?_)
theorem graftwoodlaw05_Few.mono : ∀ a0 k, LeO (graftwoodlaw05_Few.f k a0) (graftwoodlaw05_Few.f (k + 1) a0) := by
 intro a0 k
 have ih0 := graftwoodlaw05_Few.mono_l k
 unfold graftwoodlaw05_Few.f
 repeat' first
   | (with_reducible exact ih0 _ _ _)
   | (with_reducible exact LeO.refl _)
   | (with_reducible exact LeO.none _)
   | (with_reducible refine LeO.ite ?_ ?_)
   | (with_reducible refine LeO.bind ?_ (fun _ => ?_))
   | exact ih0 _ _ _
   | exact LeO.none _
   | refine LeO.ite ?_ ?_
   | refine LeO.bind ?_ (fun _ => ?_)
set_option maxHeartbeats 8000000 in
set_option maxRecDepth 100000 in
theorem graftwoodlaw05_Few.calls (k : Nat) (A0 : Option Addr) (c0 : Nat) (l0 : List (S27)) (r : List (S27)) (w : World) (hr0 : Kd.C k27 w A0 l0.length l0) (hc0 : l0.length ≤ c0) (h : graftwoodlaw05_Few.f k l0 = some r) :
  Calls Tryd.prog 15 #[.slice A0 l0.length c0] w fun e w' => ∃ v0_ : Value, e = .returned (v0_) ∧ Kd.R k27 27 w' w.heap.size (fun _ => True) v0_ r ∧ Below w.heap.size w w' := by
 have hu27 := Tryd.underlying27
 have HR0 := Aside0.mk hr0
 have HC0 := Aside0.mk hc0
 clear hr0 hc0
 have HB := am (Below.refl w.heap.size w)
 have H : (graftwoodlaw05_Few.l0 k l0 ([] : List (S27)) 0) = some r := h
 clear h
 have H' := Aside0.mk H
 clear H
 go_enter Tryd.func15, Tryd.ntmps15
 go_wp2
 go_loopg [3, 4] k (fun kq v3 v4 w' => ∃ (aN : List (S27)) (af : Int), v4 = .int .i64 af ∧ Aside0 (graftwoodlaw05_Few.l0 kq l0 aN af = some r) ∧ Aside0 (kq ≤ k) ∧ Aside0 (Kd.R k27 27 w' w.heap.size (fun _ => True) v3 aN) ∧ Aside0 (Below w.heap.size w w'))
 case atStart => exact ⟨(([] : List (S27))), (0), (by first | rfl | (simp; done) | (simp [*]; done)), H', ⟨Nat.le_refl _⟩, ⟨by first | exact Kd.R_nil _ _ _ _ _ | exact Kd.N_nil _ _ _ _ _ | exact Kd.V_nil _ _ _ _ _ | exact Kd.Q_nil _ _ _ _ _ | exact Kd.S_nil _ _ _ _ _⟩, ⟨eT HB.out⟩⟩
 case round =>
  clear H'
  try clear c1
  obtain ⟨aN, af, rfl, HA, HK1, aX, HB⟩ := hrel
  cases gk with
  | zero => exact absurd HA.out (by simp [graftwoodlaw05_Few.l0])
  | succ k1 =>
   have H := HA.out
   clear HA
   simp only [graftwoodlaw05_Few.l0] at H
   by_cases c2 : af < (l0.length : Int)
   ·rw [if_pos c2] at H
    have a2 : decide (af < (l0.length : Int)) = true := decide_eq_true c2
    clear c2
    by_cases c3 : af < 24
    ·rw [if_pos c3] at H
     have bc : decide (af < 24) = true := decide_eq_true c3
     clear c3
     by_cases c4 : 0 ≤ af
     ·rw [if_pos c4] at H
      have bp : decide (0 ≤ af) = true := decide_eq_true c4
      clear c4
      replace H := Option.bind_eq_some_iff.mp H
      obtain ⟨⟨aY, aZ⟩, A50, H⟩ := H
      replace H : (if aN.length < 4398046511104 then (graftwoodlaw05_Few.l0 k1 l0 (aN ++ [(⟨aY, aZ⟩ : S27)]) (wrap64 (af + 1))) else (none)) = some r := H
      have A5 := Aside0.mk A50
      clear A50
      by_cases c6 : aN.length < 4398046511104
      ·rw [if_pos c6] at H
       have LMc6 := Aside0.mk c6
       clear c6
       obtain ⟨bq, aQ⟩ : ∃ y_ : List (S27), y_ = (aN ++ [(⟨aY, aZ⟩ : S27)]) := ⟨_, rfl⟩
       replace H : (graftwoodlaw05_Few.l0 k1 l0 bq (wrap64 (af + 1))) = some r := by first | (rw [aQ]; with_reducible exact H) | (have H2_ := (Option.bind_some _ _).symm.trans H; rw [aQ]; with_reducible exact H2_) | (have H2_ := (Option.bind_some _ _).symm.trans H; with_reducible exact H2_) | with_reducible exact H | (rw [aQ]; exact H) | exact H
       have Ny108 := Aside0.mk aQ
       clear aQ
       have H' := Aside0.mk H
       clear H
       have p105 : 0 ≤ (af : Int) := of_decide_eq_true (by first | (with_reducible assumption) | assumption)
       have q105 : af < (l0.length : Int) := of_decide_eq_true (by first | (with_reducible assumption) | assumption)
       obtain ⟨ad105, e105, aI, aJ⟩ := at_T27 HR0.out af p105 q105
       cases e105
       replace aI := (HB.out.cell (World.block_lt_of_cell? w _ aI)).trans aI
       replace aJ := (HB.out.cell (World.block_lt_of_cell? w _ aJ)).trans aJ
       replace p105 := eq_true p105
       replace q105 := eq_true q105
       go_wp2_with (first | ((with_reducible refine gate_callee (f := 8) rfl ?_); refine gL (some 20) Tryd.func8 #[.agg #[.string ((rd_T27 l0 af).f0), .string ((rd_T27 l0 af).f1)]] ?_; (with_reducible refine (graftwoodlaw05_One.calls ((rd_T27 l0 af).f0) ((rd_T27 l0 af).f1) aY aZ _ A5.out).mono ?_); rintro e w7 ⟨rfl, hb⟩; refine ⟨_, rfl, ?_⟩; replace aX := am (rB aX.out hb); replace HB := am (sT HB.out hb); (try clear hb); (try clear hb2); (try clear hk); (try clear hi)) | ((with_reducible refine gate_builtin (b := .append) (xs := #[.tmp 15, .tmp 21]) rfl ?_); at_builtin; refine Kd.R_append k27 (w0 := w) w.heap.size rfl (.tmp 15) (.tmp 21) 22 27 (.agg #[(.string ⟨#[]⟩), (.string ⟨#[]⟩)]) 32 rfl Tryd.underlying22 info27 rfl (by decide) (by omega) u3 aN (⟨aY, aZ⟩ : S27) [.string aY, .string aZ] (fun _ => True) (fun _ => False) rfl rfl ?aP (fun _ hk => hk.elim) ?aF ?aO ?aB ?aS ?aL ?_; (case aP => exact k27_mkM _ _ _ (⟨aY, aZ⟩ : S27)); (case aB => exact (eT HB.out)); (case aF => exact (fun _ _ => trivial)); (case aO => exact (rT aX.out)); (case aS => exact (below_size (eT HB.out))); (case aL => have := LMc6.out; omega); intro cR w8 ho hb hg hat; rw [← Ny108.out] at ho; replace HB := am (hb); have br := am (ho); clear aX ho hb hg hat))
       go_roundg k1
       case measure => have := HK1.out; omega
       case rel => exact ⟨(bq), (wrap64 (af + 1)), (by first | rfl | (simp; done) | (simp [*]; done)), H', ⟨by have := HK1.out; omega⟩, ⟨rT br.out⟩, ⟨eT HB.out⟩⟩
      ·rw [if_neg c6] at H
       exact absurd H (by simp)
     ·rw [if_neg c4] at H
      exact absurd H (by simp)
    ·rw [if_neg c3] at H
     have bc : decide (af < 24) = false := decide_eq_false c3
     clear c3
     obtain rfl := Option.some.inj H
     go_wp2
     go_ret
     exact ⟨_, by first | rfl | (simp [errW_none, errW_some] <;> rfl) | (simp [*, errW_none, errW_some] <;> rfl), by (with_reducible repeat (first | apply Kd.R_alloc | apply Kd.R_drewN | apply Kd.R_drew)); exact aX.out, eT HB.out⟩
   ·rw [if_neg c2] at H
    have a2 : decide (af < (l0.length : Int)) = false := decide_eq_false c2
    clear c2
    obtain rfl := Option.some.inj H
    go_wp2
    go_ret
    exact ⟨_, by first | rfl | (simp [errW_none, errW_some] <;> rfl) | (simp [*, errW_none, errW_some] <;> rfl), by (with_reducible repeat (first | apply Kd.R_alloc | apply Kd.R_drewN | apply Kd.R_drew)); exact aX.out, eT HB.out⟩

/-! ### graftwoodlaw08_Few: function 16 -/
def graftwoodlaw08_Few.f (a0 : ByteArray) : Option (ByteArray) := if (a0.size : Int) > 160 then (if 0 ≤ 160 then (if 160 ≤ (a0.size : Int) then (some (a0.extract 0 160)) else (none)) else (none)) else (some a0)
set_option maxHeartbeats 8000000 in
set_option maxRecDepth 100000 in
theorem graftwoodlaw08_Few.calls (a0 : ByteArray) (r : ByteArray) (w : World) (h : graftwoodlaw08_Few.f a0 = some r) :
  Calls Tryd.prog 16 #[.string a0] w fun e w' => e = .returned (.string r) ∧ Drawn0 w w' := by
 have H : (if (a0.size : Int) > 160 then (if 0 ≤ 160 then (if 160 ≤ (a0.size : Int) then (some (a0.extract 0 160)) else (none)) else (none)) else (some a0)) = some r := h
 clear h
 by_cases c2 : (a0.size : Int) > 160
 ·rw [if_pos c2] at H
  have a2 : decide (160 < (a0.size : Int)) = true := decide_eq_true c2
  have bb : decide (160 < a0.size) = true := decide_eq_true (by omega)
  clear c2
  by_cases c3 : 0 ≤ 160
  ·rw [if_pos c3] at H
   have bc := eq_true c3
   have b_ : decide (0 ≤ 160) = true := decide_eq_true c3
   clear c3
   by_cases c4 : 160 ≤ (a0.size : Int)
   ·rw [if_pos c4] at H
    have bp := eq_true c4
    have ca : decide (160 ≤ (a0.size : Int)) = true := decide_eq_true c4
    clear c4
    obtain rfl := Option.some.inj H
    go_enter Tryd.func16, Tryd.ntmps16
    go_wp2
    go_ret
    exact ⟨by first | rfl | (simp; done) | (simp [*]; done), by repeat (first | exact Drawn0.refl _ | apply Drawn0.step)⟩
   ·rw [if_neg c4] at H
    exact absurd H (by simp)
  ·rw [if_neg c3] at H
   exact absurd H (by simp)
 ·rw [if_neg c2] at H
  have a2 : decide (160 < (a0.size : Int)) = false := decide_eq_false c2
  have bb : decide (160 < a0.size) = false := decide_eq_false (by omega)
  clear c2
  obtain rfl := Option.some.inj H
  go_enter Tryd.func16, Tryd.ntmps16
  go_wp2
  go_ret
  exact ⟨by first | rfl | (simp; done) | (simp [*]; done), by repeat (first | exact Drawn0.refl _ | apply Drawn0.step)⟩

/-! ### graftwoodlaw12_Few: function 7 -/
def graftwoodlaw12_Few.l0 : Nat → Int → List (S27) → List ByteArray → List (S27) → List ByteArray → Option ((List (S27)) × List ByteArray)
 | 0, _, _, _, _, _ => none
 | k + 1, x4, a4, aK, aM, ay => if x4 < (aK.length : Int) then (if x4 < 24 then (if 0 ≤ x4 then ((graftwoodlaw08_Few.f (rdOf ByteArray.empty aK x4)).bind fun aV => (if ay.length < 8796093022208 then (graftwoodlaw12_Few.l0 k (wrap64 (x4 + 1)) a4 aK aM (ay ++ [aV])) else (none))) else (none)) else (some (aM, ay))) else (some (aM, ay))
def graftwoodlaw12_Few.f (k : Nat) (l0_0 : List (S27)) (l0_1 : List ByteArray) : Option ((List (S27)) × List ByteArray) := (graftwoodlaw05_Few.f k l0_0).bind fun ai => (graftwoodlaw12_Few.l0 k 0 l0_0 l0_1 ai ([] : List ByteArray))
theorem graftwoodlaw12_Few.mono_l : ∀ k, (∀ y0 y1 y2 y3 y4, LeO (graftwoodlaw12_Few.l0 k y0 y1 y2 y3 y4) (graftwoodlaw12_Few.l0 (k + 1) y0 y1 y2 y3 y4))
 | 0 => fun _ _ _ _ _ r h => by simp [graftwoodlaw12_Few.l0] at h
 | k + 1 => by
  have ih0 := graftwoodlaw12_Few.mono_l k
  ·intro y0 y1 y2 y3 y4
   unfold graftwoodlaw12_Few.l0
   repeat' first
   | (with_reducible exact ih0 _ _ _ _ _)
   | (with_reducible exact graftwoodlaw05_Few.mono _ _)
   | (with_reducible exact LeO.refl _)
   | (with_reducible exact LeO.none _)
   | (with_reducible refine LeO.ite ?_ ?_)
   | (with_reducible refine LeO.bind ?_ (fun _ => ?_))
   | exact ih0 _ _ _ _ _
   | exact graftwoodlaw05_Few.mono _ _
   | exact LeO.none _
   | refine LeO.ite ?_ ?_
   | refine LeO.bind ?_ (fun _ => ?_)
theorem graftwoodlaw12_Few.mono : ∀ a0 a1 k, LeO (graftwoodlaw12_Few.f k a0 a1) (graftwoodlaw12_Few.f (k + 1) a0 a1) := by
 intro a0 a1 k
 have ih0 := graftwoodlaw12_Few.mono_l k
 unfold graftwoodlaw12_Few.f
 repeat' first
   | (with_reducible exact ih0 _ _ _ _ _)
   | (with_reducible exact graftwoodlaw05_Few.mono _ _)
   | (with_reducible exact LeO.refl _)
   | (with_reducible exact LeO.none _)
   | (with_reducible refine LeO.ite ?_ ?_)
   | (with_reducible refine LeO.bind ?_ (fun _ => ?_))
   | exact ih0 _ _ _ _ _
   | exact graftwoodlaw05_Few.mono _ _
   | exact LeO.none _
   | refine LeO.ite ?_ ?_
   | refine LeO.bind ?_ (fun _ => ?_)
def graftwoodlaw12_Few.T5 : Bool × List (List Nat × List Nat) := (true, [([], []), ([0], [0]), ([], []), ([2], [2]), ([], []), ([3, 4], [3, 4]), ([5], [5]), ([6], [6]), ([7], [7]), ([1, 8, 7], [1, 8]), ([0, 1, 2, 3, 4, 5, 6, 7, 8, 9], []), ([10, 9, 9, 0, 1, 2, 3, 4, 5, 6, 7, 8, 9], [9, 10])])
def graftwoodlaw12_Few.B5 : List Nat := [0, 1, 0, 4, 0, 28, 60, 124, 252, 511, 1023, 2047]
theorem graftwoodlaw12_Few.tab5 : rtab .any (opsOf Tryd.f7 5) = graftwoodlaw12_Few.T5 := by kernel_rfl
theorem graftwoodlaw12_Few.bits5 : waitsOk graftwoodlaw12_Few.T5.2 graftwoodlaw12_Few.B5 = true := by kernel_rfl
set_option maxHeartbeats 8000000 in
set_option maxRecDepth 100000 in
theorem graftwoodlaw12_Few.calls (k : Nat) (aA : Option Addr) (aC : Nat) (l0_0 : List (S27)) (aR : Option Addr) (aD : Nat) (l0_1 : List ByteArray) (r1 : List (S27)) (r2 : List ByteArray) (w : World) (hr0_0 : Kd.C k27 w aA l0_0.length l0_0) (hc0_0 : l0_0.length ≤ aC) (hr0_1 : Kd.C Kd.string w aR l0_1.length l0_1) (hc0_1 : l0_1.length ≤ aD) (h : graftwoodlaw12_Few.f k l0_0 l0_1 = some (r1, r2)) :
  Calls Tryd.prog 7 #[.agg #[.slice aA l0_0.length aC, .slice aR l0_1.length aD]] w fun e w' => ∃ v0_ v1_ : Value, e = .returned (.agg #[v0_, v1_]) ∧ Kd.R k27 27 w' w.heap.size (fun _ => True) v0_ r1 ∧ Kd.R Kd.string 9 w' w.heap.size (fun _ => True) v1_ r2 ∧ Below w.heap.size w w' := by
 have hu25 := Tryd.underlying25
 have bs := Aside0.mk hr0_0
 have bt := Aside0.mk hc0_0
 clear hr0_0 hc0_0
 have bu := Aside0.mk hr0_1
 have cl := Aside0.mk hc0_1
 clear hr0_1 hc0_1
 have HB := am (Below.refl w.heap.size w)
 have H : ((graftwoodlaw05_Few.f k l0_0).bind fun ai => (graftwoodlaw12_Few.l0 k 0 l0_0 l0_1 ai ([] : List ByteArray))) = some (r1, r2) := h
 clear h
 replace H := Option.bind_eq_some_iff.mp H
 obtain ⟨ai, A20, H⟩ := H
 replace H : (graftwoodlaw12_Few.l0 k 0 l0_0 l0_1 ai ([] : List ByteArray)) = some (r1, r2) := H
 have A2 := Aside0.mk A20
 clear A20
 have H' := Aside0.mk H
 clear H
 go_enter Tryd.func7, Tryd.ntmps7
 go_wp2_with (first | ((with_reducible refine gate_dst (N := 1) rfl ?_); refine box_event ?hg (N := 1) ?hd (cs := #[.slice aA l0_0.length aC, .slice aR l0_1.length aD]) (t := 25) ?hr ?_; (case hd => rfl); (case hg => rfl); (case hr => first | (go_simp; done) | (go_simp; rfl)); intro aq hg w3 hbox hb; have aa := am (hbox); have cm := am ((gT hg HB.out)); have cn := am ((gT hg HB.out)); replace HB := am (sT HB.out hb); clear hb hbox hg) | ((with_reducible refine gate_dst (N := 2) rfl ?_); refine box_event ?hg (N := 2) ?hd (cs := #[.slice none 0 0, .slice none 0 0]) (t := 25) ?hr ?_; (case hd => rfl); (case hg => rfl); (case hr => first | (go_simp; done) | (go_simp; rfl)); intro ak hg w4 hbox hb; have ae := am (hbox); have co := am ((gT hg HB.out)); have cp := am ((gT hg HB.out)); have ar := am ((nT aa.out hg)); have au := am ((mT aa.out hg)); replace aa := am (bB aa.out hb); replace HB := am (sT HB.out hb); clear hb hbox hg; have cS := ar.out; have cU := au.out; have be : w4.cell? ⟨aq, 0, none⟩ = some (.slice aA l0_0.length aC) := cT aa 0; have bf : w4.cell? ⟨aq, 1, none⟩ = some (.slice aR l0_1.length aD) := cT aa 1; have bg := blk_frozen aa.out 0; have bh := blk_frozen aa.out 1) | ((with_reducible refine gate_callee (f := 15) rfl ?_); refine gL (some 7) Tryd.func15 #[.slice aA l0_0.length aC] ?_; (with_reducible refine (graftwoodlaw05_Few.calls k _ _ l0_0 ai _ ?side1 ?side2 A2.out).mono ?_); (case side1 => repeat (first | exact (Kd.C_below bs.out HB.out) | (with_reducible refine Kd.C_alloc ?_ _) | (with_reducible refine Kd.C_drewN ?_ _) | (with_reducible refine Kd.C_drew ?_))); (case side2 => exact bt.out); rintro e w7 ⟨cV, rfl, ho0, hb⟩; refine ⟨_, rfl, ?_⟩; have aW := am (Kd.R_lower ho0 (below_size (eT HB.out))); replace aa := am (bB aa.out hb); replace ae := am (bB ae.out hb); replace HB := am (sT HB.out hb); (try clear hb); (try clear hb2); (try clear hk); (try clear hi); (try clear ho0); obtain ⟨Ao8, co8, eo8⟩ := Kd.R_slice aW.out; subst eo8) | ((with_reducible refine gate_dst (N := 3) rfl ?_); refine box_event ?hg (N := 3) ?hd (cs := #[.slice none 0 0, .slice none 0 0]) (t := 25) ?hr ?_; (case hd => rfl); (case hg => rfl); (case hr => first | (go_simp; done) | (go_simp; rfl)); intro an hg w9 hbox hb; replace aW := am (rB aW.out hb); have ab := am (hbox); have cq := am ((gT hg HB.out)); have cr := am ((gT hg HB.out)); have ag := am ((nT aa.out hg)); have ap := am ((mT aa.out hg)); have aj := am ((nT ae.out hg)); have av := am ((mT ae.out hg)); replace aa := am (bB aa.out hb); replace ae := am (bB ae.out hb); replace HB := am (sT HB.out hb); clear hb hbox hg; have ct := ap.out; have cu := ag.out; have cv := av.out; have cw := aj.out; have a5 : w9.cell? ⟨an, 0, none⟩ = some (.slice none 0 0) := cT ab 0; have a6 : w9.cell? ⟨an, 1, none⟩ = some (.slice none 0 0) := cT ab 1; have a7 := blk_frozen ab.out 0; have a8 := blk_frozen ab.out 1))
 go_loopg [4] k (fun kq v4 w' => ∃ (af : Int) (ac : List ByteArray) (u117001 : Value), v4 = .int .i64 af ∧ Aside0 (graftwoodlaw12_Few.l0 kq af l0_0 l0_1 ai ac = some (r1, r2)) ∧ Aside0 (kq ≤ k) ∧ Aside0 (Kd.R k27 27 w' w.heap.size (fun _ => True) (.slice Ao8 ai.length co8) ai) ∧ Aside0 (Kd.R Kd.string 9 w' w.heap.size (fun _ => True) u117001 ac) ∧ Aside0 (w'.heap[aq]? = some (.cells #[(.slice aA l0_0.length aC), (.slice aR l0_1.length aD)] 25 (0, 0))) ∧ Aside0 (w'.heap[ak]? = some (.cells #[(.slice none 0 0), (.slice none 0 0)] 25 (0, 0))) ∧ Aside0 (w'.heap[an]? = some (.cells #[(.slice Ao8 ai.length co8), u117001] 25 (0, 0))) ∧ Aside0 (Below w.heap.size w w'))
 case atStart => exact ⟨(0), (([] : List ByteArray)), (.slice none 0 0), (by first | rfl | (simp; done) | (simp [*]; done)), H', ⟨Nat.le_refl _⟩, ⟨by (with_reducible repeat (first | apply Kd.R_alloc | apply Kd.R_drewN | apply Kd.R_drew)); exact Kd.R_mono (Kd.R_far (p := ⟨an, 1, none⟩) (Kd.R_far (p := ⟨an, 0, none⟩) (Kd.R_types aW.out ab.out (by decide)) (fun _ hk => hk.2) (.slice Ao8 ai.length co8)) (fun _ hk => hk.2) (.slice none 0 0)) (fun _ hk => trivial)⟩, ⟨by first | exact Kd.R_nil _ _ _ _ _ | exact Kd.N_nil _ _ _ _ _ | exact Kd.V_nil _ _ _ _ _ | exact Kd.Q_nil _ _ _ _ _ | exact Kd.S_nil _ _ _ _ _⟩, ⟨by (with_reducible repeat (first | apply bn | apply bd | apply ba)); refine blk_far ?_ ag.out _; (with_reducible repeat (first | apply bn | apply bd | apply ba)); refine blk_far ?_ ag.out _; exact bT aa.out⟩, ⟨by (with_reducible repeat (first | apply bn | apply bd | apply ba)); refine blk_far ?_ aj.out _; (with_reducible repeat (first | apply bn | apply bd | apply ba)); refine blk_far ?_ aj.out _; exact bT ae.out⟩, ⟨by (with_reducible repeat (first | apply bn | apply bd | apply ba)); refine blk_put (cs := #[.slice Ao8 ai.length co8, .slice none 0 0]) ?_ 1 _ rfl; (with_reducible repeat (first | apply bn | apply bd | apply ba)); refine blk_put (cs := #[.slice none 0 0, .slice none 0 0]) ?_ 0 _ rfl; exact bT ab.out⟩, ⟨by repeat (first | (with_reducible first | exact HB.out | apply pA | apply pN | apply pD | refine eU ?_ (by assumption)) | exact HB.out)⟩⟩
 case round =>
  clear H'
  try clear c1
  try clear p2
  try clear c5
  try clear c7
  try clear c10
  try clear c11
  try clear a5
  try clear a6
  try clear be
  try clear bf
  try clear a7
  try clear a8
  try clear bg
  try clear bh
  obtain ⟨af, ac, u117001, rfl, HA, HK1, ah, ad, aa, ae, ab, HB⟩ := hrel
  cases gk with
  | zero => exact absurd HA.out (by simp [graftwoodlaw12_Few.l0])
  | succ k1 =>
   have H := HA.out
   clear HA
   simp only [graftwoodlaw12_Few.l0] at H
   by_cases c13 : af < (l0_1.length : Int)
   ·rw [if_pos c13] at H
    have bv : decide (af < (l0_1.length : Int)) = true := decide_eq_true c13
    clear c13
    by_cases c14 : af < 24
    ·rw [if_pos c14] at H
     have bw : decide (af < 24) = true := decide_eq_true c14
     clear c14
     by_cases c15 : 0 ≤ af
     ·rw [if_pos c15] at H
      have cx : decide (0 ≤ af) = true := decide_eq_true c15
      clear c15
      replace H := Option.bind_eq_some_iff.mp H
      obtain ⟨aV, bx, H⟩ := H
      replace H : (if ac.length < 8796093022208 then (graftwoodlaw12_Few.l0 k1 (wrap64 (af + 1)) l0_0 l0_1 ai (ac ++ [aV])) else (none)) = some (r1, r2) := H
      have A16 := Aside0.mk bx
      clear bx
      by_cases c17 : ac.length < 8796093022208
      ·rw [if_pos c17] at H
       have LMc17 := Aside0.mk c17
       clear c17
       obtain ⟨a3, aU⟩ : ∃ y_ : List ByteArray, y_ = (ac ++ [aV]) := ⟨_, rfl⟩
       replace H : (graftwoodlaw12_Few.l0 k1 (wrap64 (af + 1)) l0_0 l0_1 ai a3) = some (r1, r2) := by first | (rw [aU]; with_reducible exact H) | (have H2_ := (Option.bind_some _ _).symm.trans H; rw [aU]; with_reducible exact H2_) | (have H2_ := (Option.bind_some _ _).symm.trans H; with_reducible exact H2_) | with_reducible exact H | (rw [aU]; exact H) | exact H
       have Ny119 := Aside0.mk aU
       clear aU
       have H' := Aside0.mk H
       clear H
       have cy := ar.out
       have cz := au.out
       have cA := ag.out
       have cB := ap.out
       have bC : wr.cell? ⟨aq, 0, none⟩ = some (.slice aA l0_0.length aC) := cT aa 0
       have bD : wr.cell? ⟨aq, 1, none⟩ = some (.slice aR l0_1.length aD) := cT aa 1
       have bE := blk_frozen aa.out 0
       have bF := blk_frozen aa.out 1
       try go_wp2
       replace ah := am (Kd.R_drew ah.out)
       replace ad := am (Kd.R_drew ad.out)
       replace aa := am (blk_drew aa.out)
       replace ae := am (blk_drew ae.out)
       replace ab := am (blk_drew ab.out)
       replace HB := am (below_drew1 HB.out)
       have p117 : 0 ≤ (af : Int) := of_decide_eq_true (by first | (with_reducible assumption) | assumption)
       have q117 : af < (l0_1.length : Int) := of_decide_eq_true (by first | (with_reducible assumption) | assumption)
       obtain ⟨ad117, e117, aw⟩ := Kd.at_string bu.out af p117 q117
       have hw117_0 := aw
       cases e117
       replace aw := (HB.out.cell (World.block_lt_of_cell? w _ aw)).trans aw
       replace p117 := eq_true p117
       replace q117 := eq_true q117
       refine start_ (n := 12) (S := fun w' => w'.cell? ⟨an, 0, none⟩ = some (.slice Ao8 ai.length co8) ∧ w'.cell? ⟨an, 1, none⟩ = some (u117001) ∧ w'.cell? ⟨aq, 0, none⟩ = some (.slice aA l0_0.length aC) ∧ w'.cell? ⟨aq, 1, none⟩ = some (.slice (some ad117) l0_1.length aD) ∧ w'.cell? (ad117.add (af).toNat) = some (.string (rdOf ByteArray.empty l0_1 af))) (ds := [11]) (bA 12 0) (by kernel_rfl) rfl (by kernel_rfl) ⟨cT ab 0, cT ab 1, cT aa 0, cT aa 1, ((HB.out.cell (World.block_lt_of_cell? w _ hw117_0)).trans hw117_0)⟩ (fun hHeld => ?_); refine with_tabW graftwoodlaw12_Few.tab5 graftwoodlaw12_Few.bits5 (fun HT_ HW_ => ?_)
       generalize wr.drew = w21 at ah ad aa ae ab HB aw hHeld ⊢
       refine pT 0 20 (bA 12 1) HT_.out ?_
       refine pT 2 22 (bA 12 5) HT_.out ?_
       refine pT 4 24 (bA 12 21) HT_.out ?_
       refine tT 1 21 (bA 12 23) HT_.out HW_.out hHeld ?_ (hy := by rintro w' ⟨s0, s1, s2, s3, s4⟩; go_simp; with_reducible rfl)
       refine tT 3 23 (bA 12 31) HT_.out HW_.out hHeld ?_ (hy := by rintro w' ⟨s0, s1, s2, s3, s4⟩; go_simp; with_reducible rfl)
       refine pT 5 25 (bA 12 63) HT_.out ?_
       refine tT 6 26 (bA 12 127) HT_.out HW_.out hHeld ?_ (hy := by rintro w' ⟨s0, s1, s2, s3, s4⟩; go_simp; with_reducible rfl)
       refine oT 7 (bA 12 255) HT_.out fun K hK => ?_
       refine gS Tryd.func16 #[.string (rdOf ByteArray.empty l0_1 af)] ?_
       with_reducible refine (graftwoodlaw08_Few.calls (rdOf ByteArray.empty l0_1 af) aV _ A16.out).mono ?_
       rintro e w' ⟨rfl, ⟨nd, rfl⟩⟩
       refine ⟨_, rfl, ?_⟩
       refine hK.out _ _ ⟨cT ab 0, cT ab 1, cT aa 0, cT aa 1, ((HB.out.cell (World.block_lt_of_cell? w _ hw117_0)).trans hw117_0)⟩ (fun hHeld => ?_)
       clear hK K
       refine mN 27 ?_
       refine oT 8 (bA 12 511) HT_.out fun K hK => ?_
       refine value_ (w1 := ?_) (v := ?_) (by rfl) rfl ?_ ?_
       rotate_left 2
       ·go_simp
        constructor
        ·rfl
        ·rfl
       refine hK.out _ _ ⟨(blk_cell (blk_alloc ab.out _) 0).trans rfl, (blk_cell (blk_alloc ab.out _) 1).trans rfl, (blk_cell (blk_alloc aa.out _) 0).trans rfl, (blk_cell (blk_alloc aa.out _) 1).trans rfl, (World.cell?_alloc_lt _ _ _ (World.block_lt_of_cell? _ _ (((HB.out.cell (World.block_lt_of_cell? w _ hw117_0)).trans hw117_0)))).trans (((HB.out.cell (World.block_lt_of_cell? w _ hw117_0)).trans hw117_0))⟩ (fun hHeld => ?_)
       clear hK K
       refine mN 28 ?_
       refine oT 9 (bA 12 1023) HT_.out fun K hK => ?_
       refine Kd.R_append_step Kd.string (w0 := w) w.heap.size (by rfl) (.tmp 21) (.tmp 28) 23 9 (.string ⟨#[]⟩) 16 rfl Tryd.underlying23 info9 rfl (by decide) (by omega) u117001 ac aV [.string aV] (fun _ => True) (fun _ => False) rfl rfl ?aP (fun _ hk => hk.elim) ?aF ?aO ?aB ?aS ?aL ?_
       (case aP => exact rfl)
       (case aB => exact (eT HB.out))
       (case aF => exact (fun _ _ => trivial))
       (case aO => exact (rT ad.out))
       (case aS => exact (below_size (eT HB.out)))
       (case aL => have := LMc17.out; omega)
       intro cW w22 ho hb hg hat
       rw [← Ny119.out] at ho
       replace ah := am (Kd.R_over' (rT ah.out) (Kd.R_typed (rT ad.out)) (by decide) hg)
       replace aa := am (blk_grown (g := aq) (o := .cells #[.slice aA l0_0.length aC, .slice (some ad117) l0_1.length aD] 25 (0, 0)) (bT aa.out) hg (Kd.R_ne ad.out aa.out (by decide)))
       replace ae := am (blk_grown (g := ak) (o := .cells #[.slice none 0 0, .slice none 0 0] 25 (0, 0)) (bT ae.out) hg (Kd.R_ne ad.out ae.out (by decide)))
       replace ab := am (blk_grown (g := an) (o := .cells #[.slice Ao8 ai.length co8, u117001] 25 (0, 0)) (bT ab.out) hg (Kd.R_ne ad.out ab.out (by decide)))
       replace HB := am (hb)
       have a_ := am (ho)
       clear ad ho hb hg hat
       obtain ⟨bi, bj, bz⟩ := Kd.R_slice a_.out
       (first | subst bz | (injection bz with f1_ f2_ f3_; have f4_ := f1_.symm; have f5_ := f3_.symm; clear f1_ f2_ f3_; subst f4_; subst f5_))
       refine hK.out _ _ ⟨cT ab 0, cT ab 1, cT aa 0, cT aa 1, ((HB.out.cell (World.block_lt_of_cell? w _ hw117_0)).trans hw117_0)⟩ (fun hHeld => ?_)
       clear hK K
       refine mN 29 ?_
       refine pT 10 30 (bA 12 2047) HT_.out ?_
       refine last_ (i := 11) (N := none) (bA 12 4095) rfl rfl (one_of HT_.out (by kernel_rfl)) (by decide) (fun K hK => ?_)
       have cX : w22.cell? ⟨an, 1, none⟩ = some (u117001) := cT ab 1
       have cC := blk_frozen ab.out 1
       have bG := ag.out
       have bH := aj.out
       have bI := ap.out
       have bJ := av.out
       refine skip_ (w1 := ?_) (by rfl) rfl ?_ ?_
       rotate_left
       ·go_simp
        rfl
       refine hK.out _ _ ?_
       clear hK K
       refine done_ (done_of HT_.out (by kernel_rfl)) ?_
       try go_wp2
       go_roundg k1
       case measure => have := HK1.out; omega
       case rel => exact ⟨(wrap64 (af + 1)), (a3), (.slice bi a3.length bj), (by first | rfl | (simp; done) | (simp [*]; done)), H', ⟨by have := HK1.out; omega⟩, ⟨by (with_reducible repeat (first | apply Kd.R_alloc | apply Kd.R_drewN | apply Kd.R_drew)); exact Kd.R_mono (Kd.R_far (p := ⟨an, 1, none⟩) (Kd.R_types ah.out ab.out (by decide)) (fun _ hk => hk.2) (.slice bi a3.length bj)) (fun _ hk => trivial)⟩, ⟨by (with_reducible repeat (first | apply Kd.R_alloc | apply Kd.R_drewN | apply Kd.R_drew)); exact Kd.R_mono (Kd.R_far (p := ⟨an, 1, none⟩) (Kd.R_types a_.out ab.out (by decide)) (fun _ hk => hk.2) (.slice bi a3.length bj)) (fun _ hk => trivial)⟩, ⟨by (with_reducible repeat (first | apply bn | apply bd | apply ba)); refine blk_far ?_ ag.out _; exact bT aa.out⟩, ⟨by (with_reducible repeat (first | apply bn | apply bd | apply ba)); refine blk_far ?_ aj.out _; exact bT ae.out⟩, ⟨by (with_reducible repeat (first | apply bn | apply bd | apply ba)); refine blk_put (cs := #[.slice Ao8 ai.length co8, u117001]) ?_ 1 _ rfl; exact bT ab.out⟩, ⟨by repeat (first | (with_reducible first | exact HB.out | apply pA | apply pN | apply pD | refine eU ?_ (by assumption)) | exact HB.out)⟩⟩
      ·rw [if_neg c17] at H
       exact absurd H (by simp)
     ·rw [if_neg c15] at H
      exact absurd H (by simp)
    ·rw [if_neg c14] at H
     have bw : decide (af < 24) = false := decide_eq_false c14
     clear c14
     simp only [Option.some.injEq, Prod.mk.injEq] at H
     obtain ⟨rfl, rfl⟩ := H
     have cD := ar.out
     have cE := au.out
     have cF := ag.out
     have cG := ap.out
     have bK : wr.cell? ⟨aq, 0, none⟩ = some (.slice aA l0_0.length aC) := cT aa 0
     have bL : wr.cell? ⟨aq, 1, none⟩ = some (.slice aR l0_1.length aD) := cT aa 1
     have bM := blk_frozen aa.out 0
     have bN := blk_frozen aa.out 1
     have cH := av.out
     have cI := aj.out
     have bO : wr.cell? ⟨an, 0, none⟩ = some (.slice Ao8 ai.length co8) := cT ab 0
     have bP : wr.cell? ⟨an, 1, none⟩ = some (u117001) := cT ab 1
     have bQ := blk_frozen ab.out 0
     have bR := blk_frozen ab.out 1
     have bS : wr.cell? ⟨ak, 0, none⟩ = some (.slice none 0 0) := cT ae 0
     have bU : wr.cell? ⟨ak, 1, none⟩ = some (.slice none 0 0) := cT ae 1
     have bV := blk_frozen ae.out 0
     have bW := blk_frozen ae.out 1
     obtain ⟨bk, bl, cf⟩ := Kd.R_slice ad.out
     subst cf
     go_wp2
     refine bodyPost_ret (results_cell_row rfl _ _ ak 25 #[.slice Ao8 ai.length co8, .slice bk ac.length bl] (0, 0) _ rfl (by (with_reducible repeat (first | apply bn | apply bd | apply ba)); refine blk_put (cs := #[.slice Ao8 ai.length co8, .slice none 0 0]) ?_ 1 _ rfl; (with_reducible repeat (first | apply bn | apply bd | apply ba)); refine blk_put (cs := #[.slice none 0 0, .slice none 0 0]) ?_ 0 _ rfl; exact bT ae.out) Tryd.underlying25 rfl (by kernel_rfl)) rfl ?_
     exact ⟨_, _, by first | rfl | (simp [errW_none, errW_some] <;> rfl) | (simp [*, errW_none, errW_some] <;> rfl), by (with_reducible repeat (first | apply Kd.R_alloc | apply Kd.R_drewN | apply Kd.R_drew)); exact Kd.R_mono (Kd.R_far (p := ⟨ak, 1, none⟩) (Kd.R_far (p := ⟨ak, 0, none⟩) (Kd.R_types ah.out ae.out (by decide)) (fun _ hk => hk.2) (.slice Ao8 ai.length co8)) (fun _ hk => hk.2) (.slice bk ac.length bl)) (fun _ hk => trivial), by (with_reducible repeat (first | apply Kd.R_alloc | apply Kd.R_drewN | apply Kd.R_drew)); exact Kd.R_mono (Kd.R_far (p := ⟨ak, 1, none⟩) (Kd.R_far (p := ⟨ak, 0, none⟩) (Kd.R_types ad.out ae.out (by decide)) (fun _ hk => hk.2) (.slice Ao8 ai.length co8)) (fun _ hk => hk.2) (.slice bk ac.length bl)) (fun _ hk => trivial), by repeat (first | (with_reducible first | exact HB.out | apply pA | apply pN | apply pD | refine eU ?_ (by assumption)) | exact HB.out)⟩
   ·rw [if_neg c13] at H
    have bv : decide (af < (l0_1.length : Int)) = false := decide_eq_false c13
    clear c13
    simp only [Option.some.injEq, Prod.mk.injEq] at H
    obtain ⟨rfl, rfl⟩ := H
    have cJ := ar.out
    have cK := au.out
    have cL := ag.out
    have cM := ap.out
    have bX : wr.cell? ⟨aq, 0, none⟩ = some (.slice aA l0_0.length aC) := cT aa 0
    have bZ : wr.cell? ⟨aq, 1, none⟩ = some (.slice aR l0_1.length aD) := cT aa 1
    have b0 := blk_frozen aa.out 0
    have b1 := blk_frozen aa.out 1
    have cN := av.out
    have cO := aj.out
    have b2 : wr.cell? ⟨an, 0, none⟩ = some (.slice Ao8 ai.length co8) := cT ab 0
    have b3 : wr.cell? ⟨an, 1, none⟩ = some (u117001) := cT ab 1
    have b4 := blk_frozen ab.out 0
    have b5 := blk_frozen ab.out 1
    have b6 : wr.cell? ⟨ak, 0, none⟩ = some (.slice none 0 0) := cT ae 0
    have b7 : wr.cell? ⟨ak, 1, none⟩ = some (.slice none 0 0) := cT ae 1
    have b8 := blk_frozen ae.out 0
    have b9 := blk_frozen ae.out 1
    obtain ⟨bm, bo, cg⟩ := Kd.R_slice ad.out
    subst cg
    go_wp2
    refine bodyPost_ret (results_cell_row rfl _ _ ak 25 #[.slice Ao8 ai.length co8, .slice bm ac.length bo] (0, 0) _ rfl (by (with_reducible repeat (first | apply bn | apply bd | apply ba)); refine blk_put (cs := #[.slice Ao8 ai.length co8, .slice none 0 0]) ?_ 1 _ rfl; (with_reducible repeat (first | apply bn | apply bd | apply ba)); refine blk_put (cs := #[.slice none 0 0, .slice none 0 0]) ?_ 0 _ rfl; exact bT ae.out) Tryd.underlying25 rfl (by kernel_rfl)) rfl ?_
    exact ⟨_, _, by first | rfl | (simp [errW_none, errW_some] <;> rfl) | (simp [*, errW_none, errW_some] <;> rfl), by (with_reducible repeat (first | apply Kd.R_alloc | apply Kd.R_drewN | apply Kd.R_drew)); exact Kd.R_mono (Kd.R_far (p := ⟨ak, 1, none⟩) (Kd.R_far (p := ⟨ak, 0, none⟩) (Kd.R_types ah.out ae.out (by decide)) (fun _ hk => hk.2) (.slice Ao8 ai.length co8)) (fun _ hk => hk.2) (.slice bm ac.length bo)) (fun _ hk => trivial), by (with_reducible repeat (first | apply Kd.R_alloc | apply Kd.R_drewN | apply Kd.R_drew)); exact Kd.R_mono (Kd.R_far (p := ⟨ak, 1, none⟩) (Kd.R_far (p := ⟨ak, 0, none⟩) (Kd.R_types ad.out ae.out (by decide)) (fun _ hk => hk.2) (.slice Ao8 ai.length co8)) (fun _ hk => hk.2) (.slice bm ac.length bo)) (fun _ hk => trivial), by repeat (first | (with_reducible first | exact HB.out | apply pA | apply pN | apply pD | refine eU ?_ (by assumption)) | exact HB.out)⟩

end Go.Proofs.YtomjppafgalaoaaDoor.P
