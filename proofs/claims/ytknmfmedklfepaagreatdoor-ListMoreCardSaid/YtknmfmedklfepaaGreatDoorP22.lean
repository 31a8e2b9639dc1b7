-- half the indentation
import Derived.Test.YtknmfmedklfepaaGreatDoorSqz
import Derived.Test.YtknmfmedklfepaaGreatDoorP0
import Derived.Test.YtknmfmedklfepaaGreatDoorP1
import Derived.Test.YtknmfmedklfepaaGreatDoorP9
import Derived.Test.YtknmfmedklfepaaGreatDoorP17
import Derived.Test.YtknmfmedklfepaaGreatDoorP19
import Derived.Test.YtknmfmedklfepaaGreatDoorP20
import Derived.Test.YtknmfmedklfepaaGreatDoorP21
namespace Go.Proofs.YtknmfmedklfepaaGreatDoor.P
open Go.RowKit Go.Proofs.YtknmfmedklfepaaGreatDoorW.PrintWords Go.Proofs.YtknmfmedklfepaaGreatDoorW.PrintLast Go.Proofs.YtknmfmedklfepaaGreatDoorW.PrintMore
attribute [local go_sem] max2_int min2_int max_two min_two max_three min_three max_four min_four
set_option linter.unusedVariables false
set_option linter.unusedSimpArgs false
set_option maxHeartbeats 8000000
set_option maxRecDepth 100000

attribute [local go_sem high] eqA55
/-! ### tally_Best: function 31 -/
def tally_Best.j0 : Nat → List (S63) → ByteArray → Bool → Option (ByteArray × Int)
 | 0, _, _, _ => none
 | k + 1, x0, x1, x15 => if x15 = true then (some ((⟨#[]⟩ : ByteArray), 1)) else ((tally_find.f x0 x1).bind fun bt242 => (if bt242.2 = true then (if 0 ≤ bt242.1 then (if bt242.1 < (x0.length : Int) then (if 0 ≤ (wrap64 ((((rd_T63 x0 bt242.1).f1).length : Int) - 1)) then (if (wrap64 ((((rd_T63 x0 bt242.1).f1).length : Int) - 1)) < (((rd_T63 x0 bt242.1).f1).length : Int) then (some (rdOf ByteArray.empty ((rd_T63 x0 bt242.1).f1) (wrap64 ((((rd_T63 x0 bt242.1).f1).length : Int) - 1)), 0)) else (none)) else (none)) else (none)) else (none)) else (some ((⟨#[]⟩ : ByteArray), 2))))
def tally_Best.f (k : Nat) (l0 : List (S63)) (a1 : ByteArray) : Option (ByteArray × Int) := (tally_Check.f k l0).bind fun aG => (if aG = 0 then ((path_May.f k a1).bind fun aV => (tally_Best.j0 k l0 a1 (!aV))) else (tally_Best.j0 k l0 a1 true))
theorem tally_Best.mono_l : ∀ k, (∀ y0 y1 y2, LeO (tally_Best.j0 k y0 y1 y2) (tally_Best.j0 (k + 1) y0 y1 y2))
 | 0 => fun _ _ _ r h => by simp [tally_Best.j0] at h
 | k + 1 => by
  have ih0 := tally_Best.mono_l k
  ·intro y0 y1 y2
   unfold tally_Best.j0
   repeat' first | (with_reducible first | apply ih0 | apply path_May.mono | apply tally_Check.mono | apply LeO.refl | apply LeO.none | apply LeO.ite | refine LeO.bind ?_ (fun _ => ?_)) | apply ih0 | apply path_May.mono | apply tally_Check.mono | exact LeO.none _ | refine LeO.ite ?_ ?_ | refine LeO.bind ?_ (fun _ => ?_)
theorem tally_Best.mono : ∀ a0 a1 k, LeO (tally_Best.f k a0 a1) (tally_Best.f (k + 1) a0 a1) := by
 intro a0 a1 k
 have ih0 := tally_Best.mono_l k
 unfold tally_Best.f
 repeat' first | (with_reducible first | apply ih0 | apply path_May.mono | apply tally_Check.mono | apply LeO.refl | apply LeO.none | apply LeO.ite | refine LeO.bind ?_ (fun _ => ?_)) | apply ih0 | apply path_May.mono | apply tally_Check.mono | exact LeO.none _ | refine LeO.ite ?_ ?_ | refine LeO.bind ?_ (fun _ => ?_)
theorem tally_Best.calls (k : Nat) (A0 : Option Addr) (c0 : Nat) (l0 : List (S63)) (a1 : ByteArray) (r1 : ByteArray) (r2 : Int) (w : World) (hr0 : Kd.C k63 w A0 l0.length l0) (hc0 : l0.length ≤ c0) (h : tally_Best.f k l0 a1 = some (r1, r2)) :
  Calls Tryz.prog 31 #[.slice A0 l0.length c0, .string a1] w fun e w' => e = .returned (.tuple #[.string r1, .int .i64 r2]) ∧ Below w.heap.size w w' := by
 have HR0 := Aside0.mk hr0
 have HC0 := Aside0.mk hc0
 clear hr0 hc0
 have HB := am (Below.refl w.heap.size w)
 unfold tally_Best.f at h; have H := h; clear h
 have HC3 := Aside0.mk H
 clear H
 go_enter Tryz.func31, Tryz.ntmps31
 go_upto_region 1 with (fail)
 repeat (go_quiet (fail); go_upto_region 1 with (fail))
 go_cut [15] (fun v15 wc => ∃ (kq : Nat) (bf : Bool), v15 = .bool bf ∧ Aside0 (tally_Best.j0 kq l0 a1 bf = some (r1, r2)) ∧ Aside0 (kq ≤ k) ∧ Aside0 (Below w.heap.size w wc))
 case first =>
  have H := HC3.out
  clear HC3
  replace H := bnd H; obtain ⟨aG, A4, H⟩ := H
  replace H := ifP H; rcases H with ⟨c5, H⟩ | ⟨c5, H⟩
  ·have bb := beq_iff_eq.mpr c5
   have bQ := bne_eq_false_iff_eq.mpr c5
   clear c5
   (first | rw [bb] | (simp only [i64_w, i32_w]; rw [bb]) | skip)
   replace H := bnd H; obtain ⟨aV, A6, H⟩ := H
   have H' := Aside0.mk H
   clear H
   go_wp2_with (first | (go_at_call 51; (with_reducible refine (tally_Check.calls k _ _ l0 aG _ (cW (Kd.C_below HR0.out HB.out)) HC0.out A4.out).mono ?_); rintro e w7 ⟨rfl, hb⟩; replace HB := am (sTx HB.out hb)) | (go_at_call 32; (with_reducible refine (path_May.calls k a1 aV _ A6.out).mono ?_); rintro e w8 ⟨rfl, hb⟩; replace HB := am (sTx HB.out hb)))
   repeat (go_quiet (first | (go_at_call 51; (with_reducible refine (tally_Check.calls k _ _ l0 aG _ (cW (Kd.C_below HR0.out HB.out)) HC0.out A4.out).mono ?_); rintro e w7 ⟨rfl, hb⟩; replace HB := am (sTx HB.out hb)) | (go_at_call 32; (with_reducible refine (path_May.calls k a1 aV _ A6.out).mono ?_); rintro e w8 ⟨rfl, hb⟩; replace HB := am (sTx HB.out hb))); try go_wp2_with (first | (go_at_call 51; (with_reducible refine (tally_Check.calls k _ _ l0 aG _ (cW (Kd.C_below HR0.out HB.out)) HC0.out A4.out).mono ?_); rintro e w7 ⟨rfl, hb⟩; replace HB := am (sTx HB.out hb)) | (go_at_call 32; (with_reducible refine (path_May.calls k a1 aV _ A6.out).mono ?_); rintro e w8 ⟨rfl, hb⟩; replace HB := am (sTx HB.out hb))))
   go_meet
   case rel => exact ⟨_, (!aV), rfG, H', ⟨rfO⟩, ⟨eTx HB.out⟩⟩
  ·have bb := beq_eq_false_iff_ne.mpr c5
   have bQ := bne_iff_ne.mpr c5
   (first | rw [bb] | (simp only [i64_w, i32_w]; rw [bb]) | skip)
   have H' := Aside0.mk H
   clear H
   go_wp2_with (first | (go_at_call 51; (with_reducible refine (tally_Check.calls k _ _ l0 aG _ (cW (Kd.C_below HR0.out HB.out)) HC0.out A4.out).mono ?_); rintro e w9 ⟨rfl, hb⟩; replace HB := am (sTx HB.out hb)))
   repeat (go_quiet (first | (go_at_call 51; (with_reducible refine (tally_Check.calls k _ _ l0 aG _ (cW (Kd.C_below HR0.out HB.out)) HC0.out A4.out).mono ?_); rintro e w9 ⟨rfl, hb⟩; replace HB := am (sTx HB.out hb))); try go_wp2_with (first | (go_at_call 51; (with_reducible refine (tally_Check.calls k _ _ l0 aG _ (cW (Kd.C_below HR0.out HB.out)) HC0.out A4.out).mono ?_); rintro e w9 ⟨rfl, hb⟩; replace HB := am (sTx HB.out hb))))
   go_meet
   case rel => exact ⟨_, (true), rfG, H', ⟨rfO⟩, ⟨eTx HB.out⟩⟩
 case rest =>
  clear HC3
  obtain ⟨kq, bf, rfl, HA, HJ2, HB⟩ := hcut
  cases kq with
  | zero => exact absurd HA.out (by simp [tally_Best.j0])
  | succ kj2 =>
   have H := HA.out
   clear HA
   simp only [tally_Best.j0] at H
   replace H := ifB H; rcases H with ⟨rfl, H⟩ | ⟨rfl, H⟩
   ·replace H := prB H; obtain ⟨rfl, rfl⟩ := H
    go_wp2
    repeat (go_quiet (fail); try go_wp2)
    go_ret2
    exact ⟨rfF, eTx HB.out⟩
   ·replace H := bnd H; obtain ⟨⟨ae, bR⟩, A11, H⟩ := H
    (try dsimp only at H)
    replace H := ifB H; rcases H with ⟨rfl, H⟩ | ⟨rfl, H⟩
    ·replace H := ifN H; obtain ⟨c13, H⟩ := H
     have cY := decide_eq_true c13
     clear c13
     replace H := ifN H; obtain ⟨c14, H⟩ := H
     have cZ := decide_eq_true c14
     clear c14
     obtain ⟨aE, a5⟩ : ∃ j_ : Int, (wrap64 ((((rd_T63 l0 ae).f1).length : Int) - 1)) = j_ := ⟨_, rfl⟩
     replace H : (if 0 ≤ (aE) then (if (aE) < (((rd_T63 l0 ae).f1).length : Int) then (some (rdOf ByteArray.empty ((rd_T63 l0 ae).f1) (aE), 0)) else (none)) else (none)) = some (r1, r2) := by first | (rw [a5] at H; exact H) | (simp only [a5] at H ⊢; exact H)
     (try rw [a5] at A11)
     have cA : (IntKind.i64.wrap ((((rd_T63 l0 ae).f1).length : Int) - 1)) = aE := (i64_w _).trans a5
     replace H := ifN H; obtain ⟨c16, H⟩ := H
     have c_ := decide_eq_true c16
     clear c16
     replace H := ifN H; obtain ⟨c17, H⟩ := H
     have da := decide_eq_true c17
     clear c17
     replace H := prB H; obtain ⟨rfl, rfl⟩ := H
     go_wp2_with (first | (go_at_call 53; (with_reducible refine (tally_find.calls _ _ l0 a1 ae true _ (cW (Kd.C_below HR0.out HB.out)) HC0.out A11.out).mono ?_); rintro e w18 ⟨rfl, hb⟩; replace HB := am (sTx HB.out hb); have p244 : 0 ≤ (ae : Int) := of_decide_eq_true rfA; have q244 : ae < (l0.length : Int) := of_decide_eq_true rfA; obtain ⟨ad244, bl, bm, e244, an, ai, hl244_1, hi244_1⟩ := at_T63 HR0.out ae p244 q244; cases e244; replace an := (HB.out.cell (World.block_lt_of_cell? w _ an)).trans an; replace ai := (HB.out.cell (World.block_lt_of_cell? w _ ai)).trans ai; have aJ := Aside0.mk hi244_1; have bg := Aside0.mk hl244_1; clear hi244_1 hl244_1; replace p244 := eq_true p244; replace q244 := eq_true q244; have p245 : 0 ≤ (ae : Int) := of_decide_eq_true rfA; have q245 : ae < (l0.length : Int) := of_decide_eq_true rfA; obtain ⟨ad245, bo, bp, e245, ao, aj, hl245_1, hi245_1⟩ := at_T63 HR0.out ae p245 q245; obtain rfl : ad244 = ad245 := (by injection e245); replace ao := (HB.out.cell (World.block_lt_of_cell? w _ ao)).trans ao; replace aj := (HB.out.cell (World.block_lt_of_cell? w _ aj)).trans aj; have bh := Aside0.mk hi245_1; have bi := Aside0.mk hl245_1; clear hi245_1 hl245_1; replace p245 := eq_true p245; replace q245 := eq_true q245; have ea_ := Option.some.inj (ai.symm.trans aj); injection ea_ with ea_ en_ ec_; subst ea_; subst ec_; clear en_; have p246 : 0 ≤ ((aE) : Int) := of_decide_eq_true rfA; have q246 : (aE) < (((rd_T63 l0 ae).f1).length : Int) := of_decide_eq_true rfA; obtain ⟨ad246, e246, ap⟩ := Kd.at_string aJ.out (aE) p246 q246; cases e246; replace ap := (HB.out.cell (World.block_lt_of_cell? w _ ap)).trans ap; replace p246 := eq_true p246; replace q246 := eq_true q246))
     repeat (go_quiet (first | (go_at_call 53; (with_reducible refine (tally_find.calls _ _ l0 a1 ae true _ (cW (Kd.C_below HR0.out HB.out)) HC0.out A11.out).mono ?_); rintro e w18 ⟨rfl, hb⟩; replace HB := am (sTx HB.out hb); have p244 : 0 ≤ (ae : Int) := of_decide_eq_true rfA; have q244 : ae < (l0.length : Int) := of_decide_eq_true rfA; obtain ⟨ad244, bl, bm, e244, an, ai, hl244_1, hi244_1⟩ := at_T63 HR0.out ae p244 q244; cases e244; replace an := (HB.out.cell (World.block_lt_of_cell? w _ an)).trans an; replace ai := (HB.out.cell (World.block_lt_of_cell? w _ ai)).trans ai; have aJ := Aside0.mk hi244_1; have bg := Aside0.mk hl244_1; clear hi244_1 hl244_1; replace p244 := eq_true p244; replace q244 := eq_true q244; have p245 : 0 ≤ (ae : Int) := of_decide_eq_true rfA; have q245 : ae < (l0.length : Int) := of_decide_eq_true rfA; obtain ⟨ad245, bo, bp, e245, ao, aj, hl245_1, hi245_1⟩ := at_T63 HR0.out ae p245 q245; obtain rfl : ad244 = ad245 := (by injection e245); replace ao := (HB.out.cell (World.block_lt_of_cell? w _ ao)).trans ao; replace aj := (HB.out.cell (World.block_lt_of_cell? w _ aj)).trans aj; have bh := Aside0.mk hi245_1; have bi := Aside0.mk hl245_1; clear hi245_1 hl245_1; replace p245 := eq_true p245; replace q245 := eq_true q245; have ea_ := Option.some.inj (ai.symm.trans aj); injection ea_ with ea_ en_ ec_; subst ea_; subst ec_; clear en_; have p246 : 0 ≤ ((aE) : Int) := of_decide_eq_true rfA; have q246 : (aE) < (((rd_T63 l0 ae).f1).length : Int) := of_decide_eq_true rfA; obtain ⟨ad246, e246, ap⟩ := Kd.at_string aJ.out (aE) p246 q246; cases e246; replace ap := (HB.out.cell (World.block_lt_of_cell? w _ ap)).trans ap; replace p246 := eq_true p246; replace q246 := eq_true q246)); try go_wp2_with (first | (go_at_call 53; (with_reducible refine (tally_find.calls _ _ l0 a1 ae true _ (cW (Kd.C_below HR0.out HB.out)) HC0.out A11.out).mono ?_); rintro e w18 ⟨rfl, hb⟩; replace HB := am (sTx HB.out hb); have p244 : 0 ≤ (ae : Int) := of_decide_eq_true rfA; have q244 : ae < (l0.length : Int) := of_decide_eq_true rfA; obtain ⟨ad244, bl, bm, e244, an, ai, hl244_1, hi244_1⟩ := at_T63 HR0.out ae p244 q244; cases e244; replace an := (HB.out.cell (World.block_lt_of_cell? w _ an)).trans an; replace ai := (HB.out.cell (World.block_lt_of_cell? w _ ai)).trans ai; have aJ := Aside0.mk hi244_1; have bg := Aside0.mk hl244_1; clear hi244_1 hl244_1; replace p244 := eq_true p244; replace q244 := eq_true q244; have p245 : 0 ≤ (ae : Int) := of_decide_eq_true rfA; have q245 : ae < (l0.length : Int) := of_decide_eq_true rfA; obtain ⟨ad245, bo, bp, e245, ao, aj, hl245_1, hi245_1⟩ := at_T63 HR0.out ae p245 q245; obtain rfl : ad244 = ad245 := (by injection e245); replace ao := (HB.out.cell (World.block_lt_of_cell? w _ ao)).trans ao; replace aj := (HB.out.cell (World.block_lt_of_cell? w _ aj)).trans aj; have bh := Aside0.mk hi245_1; have bi := Aside0.mk hl245_1; clear hi245_1 hl245_1; replace p245 := eq_true p245; replace q245 := eq_true q245; have ea_ := Option.some.inj (ai.symm.trans aj); injection ea_ with ea_ en_ ec_; subst ea_; subst ec_; clear en_; have p246 : 0 ≤ ((aE) : Int) := of_decide_eq_true rfA; have q246 : (aE) < (((rd_T63 l0 ae).f1).length : Int) := of_decide_eq_true rfA; obtain ⟨ad246, e246, ap⟩ := Kd.at_string aJ.out (aE) p246 q246; cases e246; replace ap := (HB.out.cell (World.block_lt_of_cell? w _ ap)).trans ap; replace p246 := eq_true p246; replace q246 := eq_true q246)))
     go_ret2
     exact ⟨by first | rfl | (simp [errW_none, errW_some] <;> rfl) | (simp only [← a5]; first | rfl | (simp [errW_none, errW_some] <;> rfl)) | (simp [*, errW_none, errW_some] <;> rfl), eTx HB.out⟩
    ·replace H := prB H; obtain ⟨rfl, rfl⟩ := H
     go_wp2_with (first | (go_at_call 53; (with_reducible refine (tally_find.calls _ _ l0 a1 ae false _ (cW (Kd.C_below HR0.out HB.out)) HC0.out A11.out).mono ?_); rintro e w19 ⟨rfl, hb⟩; replace HB := am (sTx HB.out hb)))
     repeat (go_quiet (first | (go_at_call 53; (with_reducible refine (tally_find.calls _ _ l0 a1 ae false _ (cW (Kd.C_below HR0.out HB.out)) HC0.out A11.out).mono ?_); rintro e w19 ⟨rfl, hb⟩; replace HB := am (sTx HB.out hb))); try go_wp2_with (first | (go_at_call 53; (with_reducible refine (tally_find.calls _ _ l0 a1 ae false _ (cW (Kd.C_below HR0.out HB.out)) HC0.out A11.out).mono ?_); rintro e w19 ⟨rfl, hb⟩; replace HB := am (sTx HB.out hb))))
     go_ret2
     exact ⟨rfF, eTx HB.out⟩

/-! ### list_Build: function 10 -/
def list_Build.l0 : Nat → List (S63) → List (S55) → List (S63) → Int → Int → Option ((List (S55)) × Int)
 | 0, _, _, _, _, _ => none
 | k + 1, x0, x4, x9, x10, x11 => if x11 < x10 then (if 0 ≤ x11 then (if x11 < (x9.length : Int) then ((tally_Best.f k x0 ((rd_T63 x9 x11).f0)).bind fun bt249 => (if bt249.2 = 0 then (if x4.length < 4398046511104 then (list_Build.l0 k x0 (x4 ++ [(⟨(rd_T63 x9 x11).f0, bt249.1⟩ : S55)]) x9 x10 (wrap64 (x11 + 1))) else (none)) else (some (([] : List (S55)), 1)))) else (none)) else (none)) else (some (x4, 0))
def list_Build.f (k : Nat) (l0 : List (S63)) : Option ((List (S55)) × Int) := list_Build.l0 k l0 ([] : List (S55)) l0 (l0.length : Int) 0
theorem list_Build.mono_l : ∀ k, (∀ y0 y1 y2 y3 y4, LeO (list_Build.l0 k y0 y1 y2 y3 y4) (list_Build.l0 (k + 1) y0 y1 y2 y3 y4))
 | 0 => fun _ _ _ _ _ r h => by simp [list_Build.l0] at h
 | k + 1 => by
  have ih0 := list_Build.mono_l k
  ·intro y0 y1 y2 y3 y4
   unfold list_Build.l0
   repeat' first | (with_reducible first | apply ih0 | apply tally_Best.mono | apply LeO.refl | apply LeO.none | apply LeO.ite | refine LeO.bind ?_ (fun _ => ?_)) | apply ih0 | apply tally_Best.mono | exact LeO.none _ | refine LeO.ite ?_ ?_ | refine LeO.bind ?_ (fun _ => ?_)
theorem list_Build.mono : ∀ a0 k, LeO (list_Build.f k a0) (list_Build.f (k + 1) a0) := by
 intro a0 k
 have ih0 := list_Build.mono_l k
 unfold list_Build.f
 repeat' first | (with_reducible first | apply ih0 | apply tally_Best.mono | apply LeO.refl | apply LeO.none | apply LeO.ite | refine LeO.bind ?_ (fun _ => ?_)) | apply ih0 | apply tally_Best.mono | exact LeO.none _ | refine LeO.ite ?_ ?_ | refine LeO.bind ?_ (fun _ => ?_)
theorem list_Build.calls (k : Nat) (A0 : Option Addr) (c0 : Nat) (l0 : List (S63)) (r1 : List (S55)) (r2 : Int) (w : World) (hr0 : Kd.C k63 w A0 l0.length l0) (hc0 : l0.length ≤ c0) (h : list_Build.f k l0 = some (r1, r2)) :
  Calls Tryz.prog 10 #[.slice A0 l0.length c0] w fun e w' => ∃ v0_ : Value, e = .returned (.tuple #[v0_, .int .i64 r2]) ∧ Kd.R k55 55 w' w.heap.size (fun _ => True) v0_ r1 ∧ Below w.heap.size w w' := by
 have hu63 := Tryz.underlying63
 have hu55 := Tryz.underlying55
 have HR0 := Aside0.mk hr0
 have HC0 := Aside0.mk hc0
 clear hr0 hc0
 have HB := am (Below.refl w.heap.size w)
 unfold list_Build.f at h; have H := h; clear h
 have H' := Aside0.mk H
 clear H
 go_enter Tryz.func10, Tryz.ntmps10
 go_wp2
 go_loopg [4, 11] k (fun kq v4 v11 w' => ∃ (a6 : List (S55)) (ad : Int), v11 = .int .i64 ad ∧ Aside0 (list_Build.l0 kq l0 a6 l0 (l0.length : Int) ad = some (r1, r2)) ∧ Aside0 (kq ≤ k) ∧ Aside0 (Kd.R k55 55 w' w.heap.size (fun _ => True) v4 a6) ∧ Aside0 (Below w.heap.size w w'))
 case atStart => exact ⟨(([] : List (S55))), (0), rfG, H', ⟨Nat.le_refl _⟩, ⟨rfM⟩, ⟨eTx HB.out⟩⟩
 case round =>
  clear H'
  obtain ⟨a6, ad, rfl, HA, HK1, aR, HB⟩ := hrel
  cases gk with
  | zero => exact absurd HA.out (by simp [list_Build.l0])
  | succ k1 =>
   have H := HA.out
   clear HA
   simp only [list_Build.l0] at H
   replace H := ifP H; rcases H with ⟨c2, H⟩ | ⟨c2, H⟩
   ·have bq := decide_eq_true c2
    clear c2
    replace H := ifN H; obtain ⟨c3, H⟩ := H
    have br := decide_eq_true c3
    clear c3
    replace H := ifN H; obtain ⟨c4, H⟩ := H
    have cB := decide_eq_true c4
    clear c4
    replace H := bnd H; obtain ⟨⟨bc, a7⟩, A5, H⟩ := H
    (try dsimp only at H)
    replace H := ifP H; rcases H with ⟨c6, H⟩ | ⟨c6, H⟩
    ·have bS := beq_iff_eq.mpr c6
     have cC := bne_eq_false_iff_eq.mpr c6
     clear c6
     replace H := ifN H; obtain ⟨c7, H⟩ := H
     have LMc7 := Aside0.mk c7
     clear c7
     obtain ⟨bU, a8⟩ : ∃ y_ : List (S55), y_ = (a6 ++ [(⟨(rd_T63 l0 ad).f0, bc⟩ : S55)]) := ⟨_, rfl⟩
     replace H : (list_Build.l0 k1 l0 bU l0 (l0.length : Int) (wrap64 (ad + 1))) = some (r1, r2) := by first | (rw [a8]; with_reducible exact H) | (have H2_ := (Option.bind_some _ _).symm.trans H; rw [a8]; with_reducible exact H2_) | (have H2_ := (Option.bind_some _ _).symm.trans H; with_reducible exact H2_) | with_reducible exact H | (rw [a8]; exact H) | exact H
     have Ny251 := Aside0.mk a8
     clear a8
     have H' := Aside0.mk H
     clear H
     have p247 : 0 ≤ (ad : Int) := of_decide_eq_true rfA
     have q247 : ad < (l0.length : Int) := of_decide_eq_true rfA
     obtain ⟨ad247, aH, aI, e247, ax, ay, hl247_1, hi247_1⟩ := at_T63 HR0.out ad p247 q247
     cases e247
     replace ax := (HB.out.cell (World.block_lt_of_cell? w _ ax)).trans ax
     replace ay := (HB.out.cell (World.block_lt_of_cell? w _ ay)).trans ay
     have bw := Aside0.mk hi247_1
     have bx := Aside0.mk hl247_1
     clear hi247_1 hl247_1
     replace p247 := eq_true p247
     replace q247 := eq_true q247
     go_wp2_with (first | ((with_reducible refine gtD 6 ?_); refine xBx 6 63 #[.string (⟨#[]⟩ : ByteArray), .slice none 0 0] ?_; intro aw hg w8 hbox hb; replace aR := am (rB aR.out hb); have ak := am (hbox); have bV := am ((gTx hg HB.out)); have bW := am ((gTx hg HB.out)); replace HB := am (sTx HB.out hb); clear hb hbox hg; obtain ⟨cD, cE, cF, cG⟩ := bxB ak) | ((with_reducible refine gtC 31 ?_); refine xCb 19 Tryz.func31 (tally_Best.calls k1 _ _ l0 ((rd_T63 l0 ad).f0) bc a7 _ (Kd.C_below HR0.out (eTx HB.out)) HC0.out A5.out) fun w10 hb => ?_; replace aR := am (Kd.R_below (by (with_reducible repeat (first | apply Kd.R_alloc | apply Kd.R_drewN | apply Kd.R_drew)); exact (Kd.R_mono (Kd.R_far (p := ⟨aw, 1, none⟩) (Kd.R_far (p := ⟨aw, 0, none⟩) (Kd.R_types aR.out ak.out (by decide)) (fun _ hk => hk.2) (.string ((rd_T63 l0 ad).f0))) (fun _ hk => hk.2) (.slice aH ((rd_T63 l0 ad).f1).length aI)) (fun _ h_ => h_.1))) hb); replace HB := am (sTx HB.out hb); replace ak := am (blk_below (g := aw) (o := .cells #[.string ((rd_T63 l0 ad).f0), .slice aH ((rd_T63 l0 ad).f1).length aI] 63 (0, 0)) kBk hb); obtain ⟨bz, bC, bD, bE⟩ := bxB ak) | ((with_reducible refine gate_builtin (b := .append) (xs := #[.tmp 24, .tmp 29]) rfl ?_); at_builtin; refine Kd.R_append k55 (w0 := w) w.heap.size rfl (.tmp 24) (.tmp 29) 22 55 (.agg #[(.string ⟨#[]⟩), (.string ⟨#[]⟩)]) 32 rfl Tryz.underlying22 info55 rfl (by decide) (by omega) u4 a6 (⟨(rd_T63 l0 ad).f0, bc⟩ : S55) [.string ((rd_T63 l0 ad).f0), .string bc] (fun _ => True) (fun _ => False) rfl rfl ?aP (fun _ hk => hk.elim) ?aF ?aO ?aB ?aS ?aL ?_; (case aP => exact k55_mkM _ _ _ (⟨(rd_T63 l0 ad).f0, bc⟩ : S55)); (case aB => exact (eTx HB.out)); (case aF => exact (fun _ _ => trivial)); (case aO => exact (rT aR.out)); (case aS => exact (below_size (eTx HB.out))); (case aL => have := LMc7.out; omega); intro dg w12 ho hb hg hat; rw [← Ny251.out] at ho; replace ak := am (blk_grown (g := aw) (o := .cells #[.string ((rd_T63 l0 ad).f0), .slice aH ((rd_T63 l0 ad).f1).length aI] 63 (0, 0)) (bT ak.out) hg (Kd.R_ne aR.out ak.out (by decide))); replace HB := am (hb); have bX := am (ho); clear aR ho hb hg hat))
     go_roundg k1
     case measure => have := HK1.out; omega
     case rel => exact ⟨(bU), (wrap64 (ad + 1)), rfG, H', ⟨by have := HK1.out; omega⟩, ⟨rT bX.out⟩, ⟨eTx HB.out⟩⟩
    ·have bS := beq_eq_false_iff_ne.mpr c6
     have cC := bne_iff_ne.mpr c6
     replace H := prB H; obtain ⟨rfl, rfl⟩ := H
     have p247 : 0 ≤ (ad : Int) := of_decide_eq_true rfA
     have q247 : ad < (l0.length : Int) := of_decide_eq_true rfA
     obtain ⟨ad247, aH, aI, e247, ax, ay, hl247_1, hi247_1⟩ := at_T63 HR0.out ad p247 q247
     cases e247
     replace ax := (HB.out.cell (World.block_lt_of_cell? w _ ax)).trans ax
     replace ay := (HB.out.cell (World.block_lt_of_cell? w _ ay)).trans ay
     have bw := Aside0.mk hi247_1
     have bx := Aside0.mk hl247_1
     clear hi247_1 hl247_1
     replace p247 := eq_true p247
     replace q247 := eq_true q247
     go_wp2_with (first | ((with_reducible refine gtD 6 ?_); refine xBx 6 63 #[.string (⟨#[]⟩ : ByteArray), .slice none 0 0] ?_; intro aw hg w13 hbox hb; replace aR := am (rB aR.out hb); have ak := am (hbox); have bV := am ((gTx hg HB.out)); have bW := am ((gTx hg HB.out)); replace HB := am (sTx HB.out hb); clear hb hbox hg; obtain ⟨bF, bG, bH, bI⟩ := bxB ak) | ((with_reducible refine gtC 31 ?_); refine xCb 19 Tryz.func31 (tally_Best.calls k1 _ _ l0 ((rd_T63 l0 ad).f0) bc a7 _ (Kd.C_below HR0.out (eTx HB.out)) HC0.out A5.out) fun w15 hb => ?_; replace aR := am (Kd.R_below (by (with_reducible repeat (first | apply Kd.R_alloc | apply Kd.R_drewN | apply Kd.R_drew)); exact (Kd.R_mono (Kd.R_far (p := ⟨aw, 1, none⟩) (Kd.R_far (p := ⟨aw, 0, none⟩) (Kd.R_types aR.out ak.out (by decide)) (fun _ hk => hk.2) (.string ((rd_T63 l0 ad).f0))) (fun _ hk => hk.2) (.slice aH ((rd_T63 l0 ad).f1).length aI)) (fun _ h_ => h_.1))) hb); replace HB := am (sTx HB.out hb); replace ak := am (blk_below (g := aw) (o := .cells #[.string ((rd_T63 l0 ad).f0), .slice aH ((rd_T63 l0 ad).f1).length aI] 63 (0, 0)) kBk hb)))
     go_ret2
     exact ⟨_, rfF, rfM, eTx HB.out⟩
   ·have bq := decide_eq_false c2
    clear c2
    replace H := prB H; obtain ⟨rfl, rfl⟩ := H
    go_wp2
    go_ret2
    exact ⟨_, rfF, by (with_reducible repeat (first | apply Kd.R_alloc | apply Kd.R_drewN | apply Kd.R_drew)); exact aR.out, eTx HB.out⟩

/-! ### node_May: function 52 -/
def node_May.f (k : Nat) (a0_0 : ByteArray) (a0_1 : ByteArray) : Option (Bool) := (path_May.f k a0_0).bind fun bj => (if bj = true then ((version_May.f k a0_1).bind fun aZ => (some aZ)) else (some false))
theorem node_May.mono : ∀ a0 a1 k, LeO (node_May.f k a0 a1) (node_May.f (k + 1) a0 a1) := by
 intro a0 a1 k
 unfold node_May.f
 repeat' first | (with_reducible first | apply path_May.mono | apply version_May.mono | apply LeO.refl | apply LeO.none | apply LeO.ite | refine LeO.bind ?_ (fun _ => ?_)) | apply path_May.mono | apply version_May.mono | exact LeO.none _ | refine LeO.ite ?_ ?_ | refine LeO.bind ?_ (fun _ => ?_)
theorem node_May.calls (k : Nat) (a0_0 : ByteArray) (a0_1 : ByteArray) (r : Bool) (w : World) (h : node_May.f k a0_0 a0_1 = some r) :
  Calls Tryz.prog 52 #[.agg #[.string a0_0, .string a0_1]] w fun e w' => e = .returned (.bool r) ∧ Below w.heap.size w w' := by
 have hu55 := Tryz.underlying55
 have HB := am (Below.refl w.heap.size w)
 unfold node_May.f at h; have H := h; clear h
 replace H := bnd H; obtain ⟨bj, A2, H⟩ := H
 replace H := ifB H; rcases H with ⟨rfl, H⟩ | ⟨rfl, H⟩
 ·replace H := bnd H; obtain ⟨aZ, A4, H⟩ := H
  obtain rfl := smI H
  go_enter Tryz.func52, Tryz.ntmps52
  go_wp2_with (first | ((with_reducible refine gtD 1 ?_); refine xBx 1 55 #[.string a0_0, .string a0_1] ?_; intro aW hg w5 hbox hb; have aq := am (hbox); have bZ := am ((gTx hg HB.out)); have b0 := am ((gTx hg HB.out)); replace HB := am (sTx HB.out hb); clear hb hbox hg; obtain ⟨cH, cI, cJ, cK⟩ := bxB aq) | ((with_reducible refine gtC 32 ?_); refine xCb 5 Tryz.func32 (path_May.calls k a0_0 true _ A2.out) fun w7 hb => ?_; replace aq := am (bB aq.out hb); replace HB := am (sTx HB.out hb); obtain ⟨bL, bM, bN, bO⟩ := bxB aq) | (go_at_call 77; (with_reducible refine (version_May.calls k a0_1 aZ _ A4.out).mono ?_); rintro e w9 ⟨rfl, hb⟩; replace aq := am (bB aq.out hb); replace HB := am (sTx HB.out hb)))
  go_ret
  exact ⟨rfF, eTx HB.out⟩
 ·obtain rfl := smI H
  go_enter Tryz.func52, Tryz.ntmps52
  go_wp2_with (first | ((with_reducible refine gtD 1 ?_); refine xBx 1 55 #[.string a0_0, .string a0_1] ?_; intro aW hg w10 hbox hb; have aq := am (hbox); have bZ := am ((gTx hg HB.out)); have b0 := am ((gTx hg HB.out)); replace HB := am (sTx HB.out hb); clear hb hbox hg; obtain ⟨bz, bC, bD, bE⟩ := bxB aq) | ((with_reducible refine gtC 32 ?_); refine xCb 5 Tryz.func32 (path_May.calls k a0_0 false _ A2.out) fun w12 hb => ?_; replace aq := am (bB aq.out hb); replace HB := am (sTx HB.out hb)))
  go_ret
  exact ⟨rfF, eTx HB.out⟩

/-! ### node_order: function 60 -/
def node_order.f (k : Nat) (a0_0 : ByteArray) (a0_1 : ByteArray) (a1_0 : ByteArray) (a1_1 : ByteArray) : Option (Int) := if (a0_0.toList == a1_0.toList && (a0_1.toList == a1_1.toList)) = true then (some 0) else ((version_Cmp.f k a0_1 a1_1).bind fun bt259 => ((octet_Cmp.f a0_0 a1_0).bind fun aM => ((cmp_Or_int.f k (([aM, bt259.1] : List Int))).bind fun aU => (some aU))))
theorem node_order.mono : ∀ a0 a1 a2 a3 k, LeO (node_order.f k a0 a1 a2 a3) (node_order.f (k + 1) a0 a1 a2 a3) := by
 intro a0 a1 a2 a3 k
 unfold node_order.f
 repeat' first | (with_reducible first | apply cmp_Or_int.mono | apply version_Cmp.mono | apply LeO.refl | apply LeO.none | apply LeO.ite | refine LeO.bind ?_ (fun _ => ?_)) | apply cmp_Or_int.mono | apply version_Cmp.mono | exact LeO.none _ | refine LeO.ite ?_ ?_ | refine LeO.bind ?_ (fun _ => ?_)
theorem node_order.calls (k : Nat) (a0_0 : ByteArray) (a0_1 : ByteArray) (a1_0 : ByteArray) (a1_1 : ByteArray) (r : Int) (w : World) (h : node_order.f k a0_0 a0_1 a1_0 a1_1 = some r) :
  Calls Tryz.prog 60 #[.agg #[.string a0_0, .string a0_1], .agg #[.string a1_0, .string a1_1]] w fun e w' => e = .returned (.int .i64 r) ∧ Below w.heap.size w w' := by
 have hu55 := Tryz.underlying55
 have HB := am (Below.refl w.heap.size w)
 unfold node_order.f at h; have H := h; clear h
 replace H := ifP H; rcases H with ⟨c3, H⟩ | ⟨c3, H⟩
 ·have br := c3
  (try (have cL : decide (a0_0.toList = a1_0.toList && (a0_1.toList == a1_1.toList)) = true := by simpa using c3))
  (try (have cM : (a0_0.toList == a1_0.toList && (a0_1.toList == a1_1.toList)) = true := by simpa using c3))
  clear c3
  obtain rfl := smI H
  go_enter Tryz.func60, Tryz.ntmps60
  go_wp2_with (first | ((with_reducible refine gtD 2 ?_); refine xBx 2 55 #[.string a0_0, .string a0_1] ?_; intro aX hg w4 hbox hb; have ah := am (hbox); have b1 := am ((gTx hg HB.out)); have b2 := am ((gTx hg HB.out)); replace HB := am (sTx HB.out hb); clear hb hbox hg) | ((with_reducible refine gtD 3 ?_); refine xBx 3 55 #[.string a1_0, .string a1_1] ?_; intro aY hg w5 hbox hb; have av := am (hbox); have b3 := am ((gTx hg HB.out)); have b4 := am ((gTx hg HB.out)); have aN := am ((nT ah.out hg)); have aQ := am ((mT ah.out hg)); replace ah := am (bB ah.out hb); replace HB := am (sTx HB.out hb); clear hb hbox hg; have dh := aN.out; have di := aQ.out; obtain ⟨cN, cO, cP, cQ⟩ := bxB ah; obtain ⟨bL, bM, bN, bO⟩ := bxB av))
  go_ret
  exact ⟨rfF, eTx HB.out⟩
 ·have br := Bool.eq_false_iff.mpr c3
  (try (have cL : decide (a0_0.toList = a1_0.toList && (a0_1.toList == a1_1.toList)) = false := by simpa using c3))
  (try (have cM : (a0_0.toList == a1_0.toList && (a0_1.toList == a1_1.toList)) = false := by simpa using c3))
  (try (have dj : ¬ (a0_0.toList = a1_0.toList && (a0_1.toList == a1_1.toList)) := by simpa using c3))
  clear c3
  replace H := bnd H; obtain ⟨⟨a9, cR⟩, A9, H⟩ := H
  (try dsimp only at H)
  replace H := bnd H; obtain ⟨aM, A10, H⟩ := H
  obtain ⟨bP, a_⟩ : ∃ y_ : List Int, y_ = (([aM, a9] : List Int)) := ⟨_, rfl⟩
  replace H : ((cmp_Or_int.f k bP).bind fun aU => (some aU)) = some r := by first | (rw [a_]; with_reducible exact H) | (have H2_ := (Option.bind_some _ _).symm.trans H; rw [a_]; with_reducible exact H2_) | (have H2_ := (Option.bind_some _ _).symm.trans H; with_reducible exact H2_) | with_reducible exact H | (rw [a_]; exact H) | exact H
  have Ny262 := Aside0.mk a_
  clear a_
  replace H := bnd H; obtain ⟨aU, A11, H⟩ := H
  obtain rfl := smI H
  go_enter Tryz.func60, Tryz.ntmps60
  go_wp2_with (first | ((with_reducible refine gtD 2 ?_); refine xBx 2 55 #[.string a0_0, .string a0_1] ?_; intro aX hg w12 hbox hb; have ah := am (hbox); have b1 := am ((gTx hg HB.out)); have b2 := am ((gTx hg HB.out)); replace HB := am (sTx HB.out hb); clear hb hbox hg) | ((with_reducible refine gtD 3 ?_); refine xBx 3 55 #[.string a1_0, .string a1_1] ?_; intro aY hg w13 hbox hb; have av := am (hbox); have b3 := am ((gTx hg HB.out)); have b4 := am ((gTx hg HB.out)); have aN := am ((nT ah.out hg)); have aQ := am ((mT ah.out hg)); replace ah := am (bB ah.out hb); replace HB := am (sTx HB.out hb); clear hb hbox hg; have db := aN.out; have dc := aQ.out; obtain ⟨b8, b9, b_, ca⟩ := bxB ah; obtain ⟨cb, cc, cd, ce⟩ := bxB av) | ((with_reducible refine gtC 41 ?_); refine xCb 15 Tryz.func41 (version_Cmp.calls k a0_1 a1_1 a9 cR _ A9.out) fun w17 hb => ?_; replace ah := am (bB ah.out hb); replace av := am (bB av.out hb); replace HB := am (sTx HB.out hb); obtain ⟨cf, cg, ch, ci⟩ := bxB ah; obtain ⟨cj, ck, cl, cm⟩ := bxB av) | ((with_reducible refine gtC 79 ?_); refine xCz 22 Tryz.func79 (octet_Cmp.calls a0_0 a1_0 aM _ A10.out) fun nd => ?_) | ((with_reducible refine gtD 24 ?_); refine Kd.R_lit (Kd.int .i64) _ 3 ?hg (N := 24) ?hd (xs := ([aM, a9] : List Int)) (inner := [.int .i64 aM, .int .i64 a9]) (ok := fun _ => True) (okp := fun _ => True) ?hr ?hp (fun _ hk => hk) trivial (Below.refl _ _) (Nat.le_refl _) (by simp) ?_; (case hd => rfl); (case hg => rfl); (case hr => first | (go_simp; done) | (go_simp; rfl)); (case hp => exact (Reps.one (show Kd.M (Kd.int .i64) _ _ _ aM [.int .i64 aM] from rfl) (Reps.one (show Kd.M (Kd.int .i64) _ _ _ a9 [.int .i64 a9] from rfl) (Reps.none _ _)))); intro dk w20 ho21 hb hg_ hnew_; clear hg_ hnew_; (first | rw [← Ny262.out] at ho21 | (simp only [Int.reduceToNat] at ho21; rw [← Ny262.out] at ho21)); have bt := am (Kd.R_lower ho21 (below_size (eTx HB.out))); replace ah := am (bB ah.out hb); replace av := am (bB av.out hb); replace HB := am (sTx HB.out hb); clear hb ho21; obtain ⟨cS, cU, cV⟩ := Kd.R_slice bt.out; subst cV) | ((with_reducible refine gtC 66 ?_); refine xCz 25 Tryz.func66 (cmp_Or_int.calls k _ _ bP aU _ (cW (Kd.R_reads' bt.out).2.2) ((Kd.R_reads' bt.out).2.1) A11.out) fun nd => ?_))
  go_ret
  exact ⟨rfF, eTx HB.out⟩

/-! ### node_Check: function 33 -/
def node_Check.l0 : Nat → List (S55) → List (S55) → Int → Int → Option (Int)
 | 0, _, _, _, _ => none
 | k + 1, x0, x5, x6, x7 => if x7 < x6 then (if 0 ≤ x7 then (if x7 < (x5.length : Int) then ((node_May.f k ((rd_T55 x5 x7).f0) ((rd_T55 x5 x7).f1)).bind fun bJ => (if bJ = true then (if x7 > 0 then (if 0 ≤ (wrap64 (x7 - 1)) then (if (wrap64 (x7 - 1)) < (x0.length : Int) then ((node_order.f k ((rd_T55 x0 (wrap64 (x7 - 1))).f0) ((rd_T55 x0 (wrap64 (x7 - 1))).f1) ((rd_T55 x5 x7).f0) ((rd_T55 x5 x7).f1)).bind fun aK => (if aK ≥ 0 then (some 1) else (node_Check.l0 k x0 x5 x6 (wrap64 (x7 + 1))))) else (none)) else (none)) else (node_Check.l0 k x0 x5 x6 (wrap64 (x7 + 1)))) else (some 1))) else (none)) else (none)) else (some 0)
def node_Check.f (k : Nat) (l0 : List (S55)) : Option (Int) := node_Check.l0 k l0 l0 (l0.length : Int) 0
theorem node_Check.mono_l : ∀ k, (∀ y0 y1 y2 y3, LeO (node_Check.l0 k y0 y1 y2 y3) (node_Check.l0 (k + 1) y0 y1 y2 y3))
 | 0 => fun _ _ _ _ r h => by simp [node_Check.l0] at h
 | k + 1 => by
  have ih0 := node_Check.mono_l k
  ·intro y0 y1 y2 y3
   unfold node_Check.l0
   repeat' first | (with_reducible first | apply ih0 | apply node_May.mono | apply node_order.mono | apply LeO.refl | apply LeO.none | apply LeO.ite | refine LeO.bind ?_ (fun _ => ?_)) | apply ih0 | apply node_May.mono | apply node_order.mono | exact LeO.none _ | refine LeO.ite ?_ ?_ | refine LeO.bind ?_ (fun _ => ?_)
theorem node_Check.mono : ∀ a0 k, LeO (node_Check.f k a0) (node_Check.f (k + 1) a0) := by
 intro a0 k
 have ih0 := node_Check.mono_l k
 unfold node_Check.f
 repeat' first | (with_reducible first | apply ih0 | apply node_May.mono | apply node_order.mono | apply LeO.refl | apply LeO.none | apply LeO.ite | refine LeO.bind ?_ (fun _ => ?_)) | apply ih0 | apply node_May.mono | apply node_order.mono | exact LeO.none _ | refine LeO.ite ?_ ?_ | refine LeO.bind ?_ (fun _ => ?_)
def node_Check.T4 : Bool × List (List Nat × List Nat) := (true, [([], []), ([0], [0]), ([1], [1]), ([2, 1], [2]), ([3], [3]), ([4, 3], [3, 4]), ([5, 3, 3], [3, 5]), ([6], [6]), ([6], [6]), ([8, 6], [6, 8]), ([7, 9, 6], [6, 7, 9]), ([10, 6], [6, 10]), ([6], [6]), ([11, 12, 6, 6], [6, 11, 12]), ([13, 6], [6, 13]), ([6, 14, 3], [3, 6, 14]), ([3, 15], [3, 15])])
def node_Check.B4 : List Nat := [0, 1, 3, 7, 15, 31, 63, 127, 127, 383, 1023, 2047, 127, 8191, 16383, 32767, 65535]
theorem node_Check.tab4 : rtab .any (opsOf Tryz.f33 4) = node_Check.T4 := by kernel_rfl
theorem node_Check.bits4 : waitsOk node_Check.T4.2 node_Check.B4 = true := by kernel_rfl
theorem node_Check.calls (k : Nat) (A0 : Option Addr) (c0 : Nat) (l0 : List (S55)) (r : Int) (w : World) (hr0 : Kd.C k55 w A0 l0.length l0) (hc0 : l0.length ≤ c0) (h : node_Check.f k l0 = some r) :
  Calls Tryz.prog 33 #[.slice A0 l0.length c0] w fun e w' => e = .returned (.int .i64 r) ∧ Below w.heap.size w w' := by
 have hu55 := Tryz.underlying55
 have HR0 := Aside0.mk hr0
 have HC0 := Aside0.mk hc0
 clear hr0 hc0
 have HB := am (Below.refl w.heap.size w)
 unfold node_Check.f at h; have H := h; clear h
 have H' := Aside0.mk H
 clear H
 go_enter Tryz.func33, Tryz.ntmps33
 go_wp2
 go_loopg [7] k (fun kq v7 w' => ∃ (aa : Int), v7 = .int .i64 aa ∧ Aside0 (node_Check.l0 kq l0 l0 (l0.length : Int) aa = some r) ∧ Aside0 (kq ≤ k) ∧ Aside0 (Below w.heap.size w w'))
 case atStart => exact ⟨(0), rfG, H', ⟨Nat.le_refl _⟩, ⟨eTx HB.out⟩⟩
 case round =>
  clear H'
  obtain ⟨aa, rfl, HA, HK1, HB⟩ := hrel
  cases gk with
  | zero => exact absurd HA.out (by simp [node_Check.l0])
  | succ k1 =>
   have H := HA.out
   clear HA
   simp only [node_Check.l0] at H
   replace H := ifP H; rcases H with ⟨c2, H⟩ | ⟨c2, H⟩
   ·have bq := decide_eq_true c2
    clear c2
    replace H := ifN H; obtain ⟨c3, H⟩ := H
    have br := decide_eq_true c3
    clear c3
    replace H := ifN H; obtain ⟨c4, H⟩ := H
    have cB := decide_eq_true c4
    clear c4
    replace H := bnd H; obtain ⟨bJ, A5, H⟩ := H
    replace H := ifB H; rcases H with ⟨rfl, H⟩ | ⟨rfl, H⟩
    ·replace H := ifP H; rcases H with ⟨c7, H⟩ | ⟨c7, H⟩
     ·have b5 : decide (0 < aa) = true := decide_eq_true c7
      clear c7
      obtain ⟨ji8, be⟩ : ∃ j_ : Int, (wrap64 (aa - 1)) = j_ := ⟨_, rfl⟩
      replace H : (if 0 ≤ (ji8) then (if (ji8) < (l0.length : Int) then ((node_order.f k1 ((rd_T55 l0 (ji8)).f0) ((rd_T55 l0 (ji8)).f1) ((rd_T55 l0 aa).f0) ((rd_T55 l0 aa).f1)).bind fun aK => (if aK ≥ 0 then (some 1) else (node_Check.l0 k1 l0 l0 (l0.length : Int) (wrap64 (aa + 1))))) else (none)) else (none)) = some r := by first | (rw [be] at H; exact H) | (simp only [be] at H ⊢; exact H)
      (try rw [be] at A5)
      have dd : (IntKind.i64.wrap (aa - 1)) = ji8 := (i64_w _).trans be
      replace H := ifN H; obtain ⟨c9, H⟩ := H
      have b6 := decide_eq_true c9
      clear c9
      replace H := ifN H; obtain ⟨c10, H⟩ := H
      have de := decide_eq_true c10
      clear c10
      replace H := bnd H; obtain ⟨aK, A11, H⟩ := H
      replace H := ifP H; rcases H with ⟨c12, H⟩ | ⟨c12, H⟩
      ·have b7 : decide (0 ≤ aK) = true := decide_eq_true c12
       clear c12
       obtain rfl := smI H
       have p266 : 0 ≤ (aa : Int) := of_decide_eq_true rfA
       have q266 : aa < (l0.length : Int) := of_decide_eq_true rfA
       obtain ⟨ad266, e266, af, ag⟩ := at_T55 HR0.out aa p266 q266
       cases e266
       replace af := (HB.out.cell (World.block_lt_of_cell? w _ af)).trans af
       replace ag := (HB.out.cell (World.block_lt_of_cell? w _ ag)).trans ag
       replace p266 := eq_true p266
       replace q266 := eq_true q266
       try go_wp2_with (first | ((with_reducible refine gtD 4 ?_); refine xBx 4 55 #[.string (⟨#[]⟩ : ByteArray), .string (⟨#[]⟩ : ByteArray)] ?_; intro ac hg w13 hbox hb; have ab := am (hbox); have bu := am ((gTx hg HB.out)); have bv := am ((gTx hg HB.out)); replace HB := am (sTx HB.out hb); clear hb hbox hg; obtain ⟨bF, bG, bH, bI⟩ := bxB ab))
       obtain ⟨w15, hW_⟩ : ∃ W_, ((w13.setCell ⟨ac, 0, none⟩ (.string ((rd_T55 l0 aa).f0))).setCell ⟨ac, 1, none⟩ (.string ((rd_T55 l0 aa).f1))) = W_ := ⟨_, rfl⟩
       have n0_ : Aside0 (w15.heap[ac]? = some (.cells #[.string ((rd_T55 l0 aa).f0), .string ((rd_T55 l0 aa).f1)] 55 (0, 0))) := ⟨by rw [← hW_]; exact kBk⟩
       have n1_ : Aside0 (Below w.heap.size w w15) := ⟨by rw [← hW_]; exact eTx HB.out⟩
       rw [hW_]
       clear hW_
       have ab := n0_
       have HB := n1_
       clear n0_ n1_
       replace ab := am (blk_drew ab.out)
       replace HB := am (below_drew1 HB.out)
       have p269 : 0 ≤ ((ji8) : Int) := of_decide_eq_true rfA
       have q269 : (ji8) < (l0.length : Int) := of_decide_eq_true rfA
       obtain ⟨ad269, e269, ar, au⟩ := at_T55 HR0.out (ji8) p269 q269
       have hw269_1 := au
       have hw269_0 := ar
       obtain rfl : ad266 = ad269 := (by injection e269)
       replace ar := (HB.out.cell (World.block_lt_of_cell? w _ ar)).trans ar
       replace au := (HB.out.cell (World.block_lt_of_cell? w _ au)).trans au
       replace p269 := eq_true p269
       replace q269 := eq_true q269
       refine start_ (n := 17) (S := fun w' => w'.cell? ⟨ac, 0, none⟩ = some (.string ((rd_T55 l0 aa).f0)) ∧ w'.cell? ⟨ac, 1, none⟩ = some (.string ((rd_T55 l0 aa).f1)) ∧ w'.cell? (ad266.add (((ji8)).toNat * 2)) = some (.string ((rd_T55 l0 (ji8)).f0)) ∧ w'.cell? ⟨(ad266.add (((ji8)).toNat * 2)).block, (ad266.add (((ji8)).toNat * 2)).off + 1, none⟩ = some (.string ((rd_T55 l0 (ji8)).f1))) (ds := []) (bA 17 0) rfK rfl rfK ⟨cT ab 0, cT ab 1, ((HB.out.cell (World.block_lt_of_cell? w _ hw269_0)).trans hw269_0), ((HB.out.cell (World.block_lt_of_cell? w _ hw269_1)).trans hw269_1)⟩ (fun hHeld => ?_); refine with_tabW node_Check.tab4 node_Check.bits4 (fun HT_ HW_ => ?_)
       generalize w15.drew = w16 at ab HB ar au hHeld ⊢
       refine tT 0 12 (bA 17 1) HT_.out HW_.out hHeld ?_ (hy := by rintro w' ⟨s0, s1, s2, s3⟩; go_simp; with_reducible rfl)
       refine oT 1 (bA 17 3) HT_.out fun K hK => ?_
       refine gS Tryz.func52 #[.agg #[.string ((rd_T55 l0 aa).f0), .string ((rd_T55 l0 aa).f1)]] ?_
       with_reducible refine (node_May.calls k1 ((rd_T55 l0 aa).f0) ((rd_T55 l0 aa).f1) true _ A5.out).mono ?_
       rintro e w17 ⟨rfl, hb⟩
       refine ⟨_, rfl, ?_⟩
       replace ab := am (bB ab.out hb)
       replace HB := am (sTx HB.out hb)
       refine hK.out _ _ ⟨cT ab 0, cT ab 1, ((HB.out.cell (World.block_lt_of_cell? w _ hw269_0)).trans hw269_0), ((HB.out.cell (World.block_lt_of_cell? w _ hw269_1)).trans hw269_1)⟩ (fun hHeld => ?_)
       clear hK K
       refine mN 13 ?_
       refine pT 2 14 (bA 17 7) HT_.out ?_
       refine pT 3 15 (bA 17 15) HT_.out ?_
       refine pT 4 16 (bA 17 31) HT_.out ?_
       refine pT 5 17 (bA 17 63) HT_.out ?_
       refine pT 6 18 (bA 17 127) HT_.out ?_
       refine pT 7 19 (bA 17 255) HT_.out ?_
       refine pT 8 20 (bA 17 511) HT_.out ?_
       refine pT 9 21 (bA 17 1023) HT_.out ?_
       refine pT 10 22 (bA 17 2047) HT_.out ?_
       refine tT 11 23 (bA 17 4095) HT_.out HW_.out hHeld ?_ (hy := by rintro w' ⟨s0, s1, s2, s3⟩; go_simp; with_reducible rfl)
       refine tT 12 24 (bA 17 8191) HT_.out HW_.out hHeld ?_ (hy := by rintro w' ⟨s0, s1, s2, s3⟩; go_simp; with_reducible rfl)
       refine oT 13 (bA 17 16383) HT_.out fun K hK => ?_
       refine goes_ Tryz.func60 rfK rfl #[.agg #[.string ((rd_T55 l0 (ji8)).f0), .string ((rd_T55 l0 (ji8)).f1)], .agg #[.string ((rd_T55 l0 aa).f0), .string ((rd_T55 l0 aa).f1)]] (by rfl) rfl rfl (by (try simp only [List.map_toArray, List.map_cons, List.map_nil]); first | done | (simp only [be]; rfl) | rfl | (simp only [List.length_drop, List.length_take]; rfl)) ?_
       with_reducible refine (node_order.calls k1 ((rd_T55 l0 (ji8)).f0) ((rd_T55 l0 (ji8)).f1) ((rd_T55 l0 aa).f0) ((rd_T55 l0 aa).f1) aK _ A11.out).mono ?_
       rintro e w18 ⟨rfl, hb⟩
       refine ⟨_, rfl, ?_⟩
       replace ab := am (bB ab.out hb)
       replace HB := am (sTx HB.out hb)
       refine hK.out _ _ ⟨cT ab 0, cT ab 1, ((HB.out.cell (World.block_lt_of_cell? w _ hw269_0)).trans hw269_0), ((HB.out.cell (World.block_lt_of_cell? w _ hw269_1)).trans hw269_1)⟩ (fun hHeld => ?_)
       clear hK K
       refine mN 25 ?_
       refine pT 14 26 (bA 17 32767) HT_.out ?_
       refine pT 15 27 (bA 17 65535) HT_.out ?_
       refine pT 16 28 (bA 17 131071) HT_.out ?_
       refine done_ (done_of HT_.out rfK) ?_
       try go_wp2
       go_ret
       exact ⟨by first | rfl | (simp [errW_none, errW_some] <;> rfl) | (simp only [← be]; first | rfl | (simp [errW_none, errW_some] <;> rfl)) | (simp [*, errW_none, errW_some] <;> rfl), eTx HB.out⟩
      ·have b7 : decide (0 ≤ aK) = false := decide_eq_false c12
       clear c12
       have H' := Aside0.mk H
       clear H
       have p266 : 0 ≤ (aa : Int) := of_decide_eq_true rfA
       have q266 : aa < (l0.length : Int) := of_decide_eq_true rfA
       obtain ⟨ad266, e266, af, ag⟩ := at_T55 HR0.out aa p266 q266
       cases e266
       replace af := (HB.out.cell (World.block_lt_of_cell? w _ af)).trans af
       replace ag := (HB.out.cell (World.block_lt_of_cell? w _ ag)).trans ag
       replace p266 := eq_true p266
       replace q266 := eq_true q266
       try go_wp2_with (first | ((with_reducible refine gtD 4 ?_); refine xBx 4 55 #[.string (⟨#[]⟩ : ByteArray), .string (⟨#[]⟩ : ByteArray)] ?_; intro ac hg w19 hbox hb; have ab := am (hbox); have bu := am ((gTx hg HB.out)); have bv := am ((gTx hg HB.out)); replace HB := am (sTx HB.out hb); clear hb hbox hg; obtain ⟨cn, co, cp, cq⟩ := bxB ab))
       obtain ⟨w21, hW_⟩ : ∃ W_, ((w19.setCell ⟨ac, 0, none⟩ (.string ((rd_T55 l0 aa).f0))).setCell ⟨ac, 1, none⟩ (.string ((rd_T55 l0 aa).f1))) = W_ := ⟨_, rfl⟩
       have n0_ : Aside0 (w21.heap[ac]? = some (.cells #[.string ((rd_T55 l0 aa).f0), .string ((rd_T55 l0 aa).f1)] 55 (0, 0))) := ⟨by rw [← hW_]; exact kBk⟩
       have n1_ : Aside0 (Below w.heap.size w w21) := ⟨by rw [← hW_]; exact eTx HB.out⟩
       rw [hW_]
       clear hW_
       have ab := n0_
       have HB := n1_
       clear n0_ n1_
       replace ab := am (blk_drew ab.out)
       replace HB := am (below_drew1 HB.out)
       have p269 : 0 ≤ ((ji8) : Int) := of_decide_eq_true rfA
       have q269 : (ji8) < (l0.length : Int) := of_decide_eq_true rfA
       obtain ⟨ad269, e269, ar, au⟩ := at_T55 HR0.out (ji8) p269 q269
       have hw269_1 := au
       have hw269_0 := ar
       obtain rfl : ad266 = ad269 := (by injection e269)
       replace ar := (HB.out.cell (World.block_lt_of_cell? w _ ar)).trans ar
       replace au := (HB.out.cell (World.block_lt_of_cell? w _ au)).trans au
       replace p269 := eq_true p269
       replace q269 := eq_true q269
       refine start_ (n := 17) (S := fun w' => w'.cell? ⟨ac, 0, none⟩ = some (.string ((rd_T55 l0 aa).f0)) ∧ w'.cell? ⟨ac, 1, none⟩ = some (.string ((rd_T55 l0 aa).f1)) ∧ w'.cell? (ad266.add (((ji8)).toNat * 2)) = some (.string ((rd_T55 l0 (ji8)).f0)) ∧ w'.cell? ⟨(ad266.add (((ji8)).toNat * 2)).block, (ad266.add (((ji8)).toNat * 2)).off + 1, none⟩ = some (.string ((rd_T55 l0 (ji8)).f1))) (ds := []) (bA 17 0) rfK rfl rfK ⟨cT ab 0, cT ab 1, ((HB.out.cell (World.block_lt_of_cell? w _ hw269_0)).trans hw269_0), ((HB.out.cell (World.block_lt_of_cell? w _ hw269_1)).trans hw269_1)⟩ (fun hHeld => ?_); refine with_tabW node_Check.tab4 node_Check.bits4 (fun HT_ HW_ => ?_)
       generalize w21.drew = w22 at ab HB ar au hHeld ⊢
       refine tT 0 12 (bA 17 1) HT_.out HW_.out hHeld ?_ (hy := by rintro w' ⟨s0, s1, s2, s3⟩; go_simp; with_reducible rfl)
       refine oT 1 (bA 17 3) HT_.out fun K hK => ?_
       refine gS Tryz.func52 #[.agg #[.string ((rd_T55 l0 aa).f0), .string ((rd_T55 l0 aa).f1)]] ?_
       with_reducible refine (node_May.calls k1 ((rd_T55 l0 aa).f0) ((rd_T55 l0 aa).f1) true _ A5.out).mono ?_
       rintro e w23 ⟨rfl, hb⟩
       refine ⟨_, rfl, ?_⟩
       replace ab := am (bB ab.out hb)
       replace HB := am (sTx HB.out hb)
       refine hK.out _ _ ⟨cT ab 0, cT ab 1, ((HB.out.cell (World.block_lt_of_cell? w _ hw269_0)).trans hw269_0), ((HB.out.cell (World.block_lt_of_cell? w _ hw269_1)).trans hw269_1)⟩ (fun hHeld => ?_)
       clear hK K
       refine mN 13 ?_
       refine pT 2 14 (bA 17 7) HT_.out ?_
       refine pT 3 15 (bA 17 15) HT_.out ?_
       refine pT 4 16 (bA 17 31) HT_.out ?_
       refine pT 5 17 (bA 17 63) HT_.out ?_
       refine pT 6 18 (bA 17 127) HT_.out ?_
       refine pT 7 19 (bA 17 255) HT_.out ?_
       refine pT 8 20 (bA 17 511) HT_.out ?_
       refine pT 9 21 (bA 17 1023) HT_.out ?_
       refine pT 10 22 (bA 17 2047) HT_.out ?_
       refine tT 11 23 (bA 17 4095) HT_.out HW_.out hHeld ?_ (hy := by rintro w' ⟨s0, s1, s2, s3⟩; go_simp; with_reducible rfl)
       refine tT 12 24 (bA 17 8191) HT_.out HW_.out hHeld ?_ (hy := by rintro w' ⟨s0, s1, s2, s3⟩; go_simp; with_reducible rfl)
       refine oT 13 (bA 17 16383) HT_.out fun K hK => ?_
       refine goes_ Tryz.func60 rfK rfl #[.agg #[.string ((rd_T55 l0 (ji8)).f0), .string ((rd_T55 l0 (ji8)).f1)], .agg #[.string ((rd_T55 l0 aa).f0), .string ((rd_T55 l0 aa).f1)]] (by rfl) rfl rfl (by (try simp only [List.map_toArray, List.map_cons, List.map_nil]); first | done | (simp only [be]; rfl) | rfl | (simp only [List.length_drop, List.length_take]; rfl)) ?_
       with_reducible refine (node_order.calls k1 ((rd_T55 l0 (ji8)).f0) ((rd_T55 l0 (ji8)).f1) ((rd_T55 l0 aa).f0) ((rd_T55 l0 aa).f1) aK _ A11.out).mono ?_
       rintro e w24 ⟨rfl, hb⟩
       refine ⟨_, rfl, ?_⟩
       replace ab := am (bB ab.out hb)
       replace HB := am (sTx HB.out hb)
       refine hK.out _ _ ⟨cT ab 0, cT ab 1, ((HB.out.cell (World.block_lt_of_cell? w _ hw269_0)).trans hw269_0), ((HB.out.cell (World.block_lt_of_cell? w _ hw269_1)).trans hw269_1)⟩ (fun hHeld => ?_)
       clear hK K
       refine mN 25 ?_
       refine pT 14 26 (bA 17 32767) HT_.out ?_
       refine pT 15 27 (bA 17 65535) HT_.out ?_
       refine pT 16 28 (bA 17 131071) HT_.out ?_
       refine done_ (done_of HT_.out rfK) ?_
       try go_wp2
       go_roundg k1
       case measure => have := HK1.out; omega
       case rel => exact ⟨(wrap64 (aa + 1)), rfG, H', ⟨by have := HK1.out; omega⟩, ⟨eTx HB.out⟩⟩
     ·have b5 : decide (0 < aa) = false := decide_eq_false c7
      clear c7
      have H' := Aside0.mk H
      clear H
      have p266 : 0 ≤ (aa : Int) := of_decide_eq_true rfA
      have q266 : aa < (l0.length : Int) := of_decide_eq_true rfA
      obtain ⟨ad266, e266, af, ag⟩ := at_T55 HR0.out aa p266 q266
      cases e266
      replace af := (HB.out.cell (World.block_lt_of_cell? w _ af)).trans af
      replace ag := (HB.out.cell (World.block_lt_of_cell? w _ ag)).trans ag
      replace p266 := eq_true p266
      replace q266 := eq_true q266
      try go_wp2_with (first | ((with_reducible refine gtD 4 ?_); refine xBx 4 55 #[.string (⟨#[]⟩ : ByteArray), .string (⟨#[]⟩ : ByteArray)] ?_; intro ac hg w25 hbox hb; have ab := am (hbox); have bu := am ((gTx hg HB.out)); have bv := am ((gTx hg HB.out)); replace HB := am (sTx HB.out hb); clear hb hbox hg; obtain ⟨cr, ct, cu, cv⟩ := bxB ab))
      obtain ⟨w27, hW_⟩ : ∃ W_, ((w25.setCell ⟨ac, 0, none⟩ (.string ((rd_T55 l0 aa).f0))).setCell ⟨ac, 1, none⟩ (.string ((rd_T55 l0 aa).f1))) = W_ := ⟨_, rfl⟩
      have n0_ : Aside0 (w27.heap[ac]? = some (.cells #[.string ((rd_T55 l0 aa).f0), .string ((rd_T55 l0 aa).f1)] 55 (0, 0))) := ⟨by rw [← hW_]; exact kBk⟩
      have n1_ : Aside0 (Below w.heap.size w w27) := ⟨by rw [← hW_]; exact eTx HB.out⟩
      rw [hW_]
      clear hW_
      have ab := n0_
      have HB := n1_
      clear n0_ n1_
      replace ab := am (blk_drew ab.out)
      replace HB := am (below_drew1 HB.out)
      refine start_ (n := 17) (S := fun w' => w'.cell? ⟨ac, 0, none⟩ = some (.string ((rd_T55 l0 aa).f0)) ∧ w'.cell? ⟨ac, 1, none⟩ = some (.string ((rd_T55 l0 aa).f1))) (ds := []) (bA 17 0) rfK rfl rfK ⟨cT ab 0, cT ab 1⟩ (fun hHeld => ?_); refine with_tabW node_Check.tab4 node_Check.bits4 (fun HT_ HW_ => ?_)
      generalize w27.drew = w28 at ab HB hHeld ⊢
      refine tT 0 12 (bA 17 1) HT_.out HW_.out hHeld ?_ (hy := by rintro w' ⟨s0, s1⟩; go_simp; with_reducible rfl)
      refine oT 1 (bA 17 3) HT_.out fun K hK => ?_
      refine gS Tryz.func52 #[.agg #[.string ((rd_T55 l0 aa).f0), .string ((rd_T55 l0 aa).f1)]] ?_
      with_reducible refine (node_May.calls k1 ((rd_T55 l0 aa).f0) ((rd_T55 l0 aa).f1) true _ A5.out).mono ?_
      rintro e w29 ⟨rfl, hb⟩
      refine ⟨_, rfl, ?_⟩
      replace ab := am (bB ab.out hb)
      replace HB := am (sTx HB.out hb)
      refine hK.out _ _ ⟨cT ab 0, cT ab 1⟩ (fun hHeld => ?_)
      clear hK K
      refine mN 13 ?_
      refine pT 2 14 (bA 17 7) HT_.out ?_
      refine pT 3 15 (bA 17 15) HT_.out ?_
      refine pT 4 16 (bA 17 31) HT_.out ?_
      refine pT 5 17 (bA 17 63) HT_.out ?_
      refine pT 6 18 (bA 17 127) HT_.out ?_
      refine pU 7 19 (bA 17 255) HT_.out ?_
      refine pU 8 20 (bA 17 511) HT_.out ?_
      refine pU 9 21 (bA 17 1023) HT_.out ?_
      refine pU 10 22 (bA 17 2047) HT_.out ?_
      refine pU 11 23 (bA 17 4095) HT_.out ?_
      refine pU 12 24 (bA 17 8191) HT_.out ?_
      refine pU 13 25 (bA 17 16383) HT_.out ?_
      refine pU 14 26 (bA 17 32767) HT_.out ?_
      refine pT 15 27 (bA 17 65535) HT_.out ?_
      refine pT 16 28 (bA 17 131071) HT_.out ?_
      refine done_ (done_of HT_.out rfK) ?_
      try go_wp2
      go_roundg k1
      case measure => have := HK1.out; omega
      case rel => exact ⟨(wrap64 (aa + 1)), rfG, H', ⟨by have := HK1.out; omega⟩, ⟨eTx HB.out⟩⟩
    ·obtain rfl := smI H
     have p266 : 0 ≤ (aa : Int) := of_decide_eq_true rfA
     have q266 : aa < (l0.length : Int) := of_decide_eq_true rfA
     obtain ⟨ad266, e266, af, ag⟩ := at_T55 HR0.out aa p266 q266
     cases e266
     replace af := (HB.out.cell (World.block_lt_of_cell? w _ af)).trans af
     replace ag := (HB.out.cell (World.block_lt_of_cell? w _ ag)).trans ag
     replace p266 := eq_true p266
     replace q266 := eq_true q266
     try go_wp2_with (first | ((with_reducible refine gtD 4 ?_); refine xBx 4 55 #[.string (⟨#[]⟩ : ByteArray), .string (⟨#[]⟩ : ByteArray)] ?_; intro ac hg w30 hbox hb; have ab := am (hbox); have bu := am ((gTx hg HB.out)); have bv := am ((gTx hg HB.out)); replace HB := am (sTx HB.out hb); clear hb hbox hg; obtain ⟨cw, cx, cy, cz⟩ := bxB ab))
     obtain ⟨w32, hW_⟩ : ∃ W_, ((w30.setCell ⟨ac, 0, none⟩ (.string ((rd_T55 l0 aa).f0))).setCell ⟨ac, 1, none⟩ (.string ((rd_T55 l0 aa).f1))) = W_ := ⟨_, rfl⟩
     have n0_ : Aside0 (w32.heap[ac]? = some (.cells #[.string ((rd_T55 l0 aa).f0), .string ((rd_T55 l0 aa).f1)] 55 (0, 0))) := ⟨by rw [← hW_]; exact kBk⟩
     have n1_ : Aside0 (Below w.heap.size w w32) := ⟨by rw [← hW_]; exact eTx HB.out⟩
     rw [hW_]
     clear hW_
     have ab := n0_
     have HB := n1_
     clear n0_ n1_
     replace ab := am (blk_drew ab.out)
     replace HB := am (below_drew1 HB.out)
     refine start_ (n := 17) (S := fun w' => w'.cell? ⟨ac, 0, none⟩ = some (.string ((rd_T55 l0 aa).f0)) ∧ w'.cell? ⟨ac, 1, none⟩ = some (.string ((rd_T55 l0 aa).f1))) (ds := []) (bA 17 0) rfK rfl rfK ⟨cT ab 0, cT ab 1⟩ (fun hHeld => ?_); refine with_tabW node_Check.tab4 node_Check.bits4 (fun HT_ HW_ => ?_)
     generalize w32.drew = w33 at ab HB hHeld ⊢
     refine tT 0 12 (bA 17 1) HT_.out HW_.out hHeld ?_ (hy := by rintro w' ⟨s0, s1⟩; go_simp; with_reducible rfl)
     refine oT 1 (bA 17 3) HT_.out fun K hK => ?_
     refine gS Tryz.func52 #[.agg #[.string ((rd_T55 l0 aa).f0), .string ((rd_T55 l0 aa).f1)]] ?_
     with_reducible refine (node_May.calls k1 ((rd_T55 l0 aa).f0) ((rd_T55 l0 aa).f1) false _ A5.out).mono ?_
     rintro e w34 ⟨rfl, hb⟩
     refine ⟨_, rfl, ?_⟩
     replace ab := am (bB ab.out hb)
     replace HB := am (sTx HB.out hb)
     refine hK.out _ _ ⟨cT ab 0, cT ab 1⟩ (fun hHeld => ?_)
     clear hK K
     refine mN 13 ?_
     refine pT 2 14 (bA 17 7) HT_.out ?_
     refine pT 3 15 (bA 17 15) HT_.out ?_
     refine pU 4 16 (bA 17 31) HT_.out ?_
     refine pU 5 17 (bA 17 63) HT_.out ?_
     refine pU 6 18 (bA 17 127) HT_.out ?_
     refine pU 7 19 (bA 17 255) HT_.out ?_
     refine pU 8 20 (bA 17 511) HT_.out ?_
     refine pU 9 21 (bA 17 1023) HT_.out ?_
     refine pU 10 22 (bA 17 2047) HT_.out ?_
     refine pU 11 23 (bA 17 4095) HT_.out ?_
     refine pU 12 24 (bA 17 8191) HT_.out ?_
     refine pU 13 25 (bA 17 16383) HT_.out ?_
     refine pU 14 26 (bA 17 32767) HT_.out ?_
     refine pU 15 27 (bA 17 65535) HT_.out ?_
     refine pT 16 28 (bA 17 131071) HT_.out ?_
     refine done_ (done_of HT_.out rfK) ?_
     try go_wp2
     go_ret
     exact ⟨rfF, eTx HB.out⟩
   ·have bq := decide_eq_false c2
    clear c2
    obtain rfl := smI H
    go_wp2
    go_ret
    exact ⟨rfF, eTx HB.out⟩

/-! ### list_Check: function 12 -/
def list_Check.l0 : Nat → List (S55) → Int → Int → Option (Int)
 | 0, _, _, _ => none
 | k + 1, x0, x5, x6 => if x6 < x5 then (if x6 > 0 then (if 0 ≤ (wrap64 (x6 - 1)) then (if (wrap64 (x6 - 1)) < (x0.length : Int) then (if 0 ≤ x6 then (if x6 < (x0.length : Int) then (if ((rd_T55 x0 (wrap64 (x6 - 1))).f0).toList = ((rd_T55 x0 x6).f0).toList then (some 1) else (list_Check.l0 k x0 x5 (wrap64 (x6 + 1)))) else (none)) else (none)) else (none)) else (none)) else (list_Check.l0 k x0 x5 (wrap64 (x6 + 1)))) else ((node_Check.f k x0).bind fun bk => (some bk))
def list_Check.f (k : Nat) (l0 : List (S55)) : Option (Int) := list_Check.l0 k l0 (l0.length : Int) 0
theorem list_Check.mono_l : ∀ k, (∀ y0 y1 y2, LeO (list_Check.l0 k y0 y1 y2) (list_Check.l0 (k + 1) y0 y1 y2))
 | 0 => fun _ _ _ r h => by simp [list_Check.l0] at h
 | k + 1 => by
  have ih0 := list_Check.mono_l k
  ·intro y0 y1 y2
   unfold list_Check.l0
   repeat' first | (with_reducible first | apply ih0 | apply node_Check.mono | apply LeO.refl | apply LeO.none | apply LeO.ite | refine LeO.bind ?_ (fun _ => ?_)) | apply ih0 | apply node_Check.mono | exact LeO.none _ | refine LeO.ite ?_ ?_ | refine LeO.bind ?_ (fun _ => ?_)
theorem list_Check.mono : ∀ a0 k, LeO (list_Check.f k a0) (list_Check.f (k + 1) a0) := by
 intro a0 k
 have ih0 := list_Check.mono_l k
 unfold list_Check.f
 repeat' first | (with_reducible first | apply ih0 | apply node_Check.mono | apply LeO.refl | apply LeO.none | apply LeO.ite | refine LeO.bind ?_ (fun _ => ?_)) | apply ih0 | apply node_Check.mono | exact LeO.none _ | refine LeO.ite ?_ ?_ | refine LeO.bind ?_ (fun _ => ?_)
theorem list_Check.calls (k : Nat) (A0 : Option Addr) (c0 : Nat) (l0 : List (S55)) (r : Int) (w : World) (hr0 : Kd.C k55 w A0 l0.length l0) (hc0 : l0.length ≤ c0) (h : list_Check.f k l0 = some r) :
  Calls Tryz.prog 12 #[.slice A0 l0.length c0] w fun e w' => e = .returned (.int .i64 r) ∧ Below w.heap.size w w' := by
 have HR0 := Aside0.mk hr0
 have HC0 := Aside0.mk hc0
 clear hr0 hc0
 have HB := am (Below.refl w.heap.size w)
 unfold list_Check.f at h; have H := h; clear h
 have H' := Aside0.mk H
 clear H
 go_enter Tryz.func12, Tryz.ntmps12
 go_wp2
 repeat (go_quiet (fail); try go_wp2)
 go_loopg [6] k (fun kq v6 w' => ∃ (al : Int), v6 = .int .i64 al ∧ Aside0 (list_Check.l0 kq l0 (l0.length : Int) al = some r) ∧ Aside0 (kq ≤ k) ∧ Aside0 (Below w.heap.size w w'))
 case atStart => exact ⟨(0), rfG, H', ⟨Nat.le_refl _⟩, ⟨eTx HB.out⟩⟩
 case round =>
  clear H'
  obtain ⟨al, rfl, HA, HK1, HB⟩ := hrel
  cases gk with
  | zero => exact absurd HA.out (by simp [list_Check.l0])
  | succ k1 =>
   have H := HA.out
   clear HA
   simp only [list_Check.l0] at H
   replace H := ifP H; rcases H with ⟨c2, H⟩ | ⟨c2, H⟩
   ·have bq := decide_eq_true c2
    clear c2
    replace H := ifP H; rcases H with ⟨c3, H⟩ | ⟨c3, H⟩
    ·have br : decide (0 < al) = true := decide_eq_true c3
     clear c3
     obtain ⟨ji4, bK⟩ : ∃ j_ : Int, (wrap64 (al - 1)) = j_ := ⟨_, rfl⟩
     replace H : (if 0 ≤ (ji4) then (if (ji4) < (l0.length : Int) then (if 0 ≤ al then (if al < (l0.length : Int) then (if ((rd_T55 l0 (ji4)).f0).toList = ((rd_T55 l0 al).f0).toList then (some 1) else (list_Check.l0 k1 l0 (l0.length : Int) (wrap64 (al + 1)))) else (none)) else (none)) else (none)) else (none)) = some r := by first | (rw [bK] at H; exact H) | (simp only [bK] at H ⊢; exact H)
     have df : (IntKind.i64.wrap (al - 1)) = ji4 := (i64_w _).trans bK
     replace H := ifN H; obtain ⟨c5, H⟩ := H
     have bb := decide_eq_true c5
     clear c5
     replace H := ifN H; obtain ⟨c6, H⟩ := H
     have bS := decide_eq_true c6
     clear c6
     replace H := ifN H; obtain ⟨c7, H⟩ := H
     have b5 := decide_eq_true c7
     clear c7
     replace H := ifN H; obtain ⟨c8, H⟩ := H
     have dl := decide_eq_true c8
     clear c8
     replace H := ifP H; rcases H with ⟨c9, H⟩ | ⟨c9, H⟩
     ·have b6 := beq_iff_eq.mpr c9
      have cX := bne_eq_false_iff_eq.mpr c9
      clear c9
      obtain rfl := smI H
      have p271 : 0 ≤ ((ji4) : Int) := of_decide_eq_true rfA
      have q271 : (ji4) < (l0.length : Int) := of_decide_eq_true rfA
      obtain ⟨ad271, e271, az, aA⟩ := at_T55 HR0.out (ji4) p271 q271
      cases e271
      replace az := (HB.out.cell (World.block_lt_of_cell? w _ az)).trans az
      replace aA := (HB.out.cell (World.block_lt_of_cell? w _ aA)).trans aA
      replace p271 := eq_true p271
      replace q271 := eq_true q271
      have p272 : 0 ≤ (al : Int) := of_decide_eq_true rfA
      have q272 : al < (l0.length : Int) := of_decide_eq_true rfA
      obtain ⟨ad272, e272, aC, aD⟩ := at_T55 HR0.out al p272 q272
      obtain rfl : ad271 = ad272 := (by injection e272)
      replace aC := (HB.out.cell (World.block_lt_of_cell? w _ aC)).trans aC
      replace aD := (HB.out.cell (World.block_lt_of_cell? w _ aD)).trans aD
      replace p272 := eq_true p272
      replace q272 := eq_true q272
      go_wp2
      repeat (go_quiet (fail); try go_wp2)
      go_ret
      exact ⟨by first | rfl | (simp [errW_none, errW_some] <;> rfl) | (simp only [← bK]; first | rfl | (simp [errW_none, errW_some] <;> rfl)) | (simp [*, errW_none, errW_some] <;> rfl), eTx HB.out⟩
     ·have b6 := beq_eq_false_iff_ne.mpr c9
      have cX := bne_iff_ne.mpr c9
      have H' := Aside0.mk H
      clear H
      have p271 : 0 ≤ ((ji4) : Int) := of_decide_eq_true rfA
      have q271 : (ji4) < (l0.length : Int) := of_decide_eq_true rfA
      obtain ⟨ad271, e271, az, aA⟩ := at_T55 HR0.out (ji4) p271 q271
      cases e271
      replace az := (HB.out.cell (World.block_lt_of_cell? w _ az)).trans az
      replace aA := (HB.out.cell (World.block_lt_of_cell? w _ aA)).trans aA
      replace p271 := eq_true p271
      replace q271 := eq_true q271
      have p272 : 0 ≤ (al : Int) := of_decide_eq_true rfA
      have q272 : al < (l0.length : Int) := of_decide_eq_true rfA
      obtain ⟨ad272, e272, aC, aD⟩ := at_T55 HR0.out al p272 q272
      obtain rfl : ad271 = ad272 := (by injection e272)
      replace aC := (HB.out.cell (World.block_lt_of_cell? w _ aC)).trans aC
      replace aD := (HB.out.cell (World.block_lt_of_cell? w _ aD)).trans aD
      replace p272 := eq_true p272
      replace q272 := eq_true q272
      go_wp2
      repeat (go_quiet (fail); try go_wp2)
      go_roundg k1
      case measure => have := HK1.out; omega
      case rel => exact ⟨(wrap64 (al + 1)), rfG, H', ⟨by have := HK1.out; omega⟩, ⟨eTx HB.out⟩⟩
    ·have br : decide (0 < al) = false := decide_eq_false c3
     clear c3
     have H' := Aside0.mk H
     clear H
     go_wp2
     repeat (go_quiet (fail); try go_wp2)
     go_roundg k1
     case measure => have := HK1.out; omega
     case rel => exact ⟨(wrap64 (al + 1)), rfG, H', ⟨by have := HK1.out; omega⟩, ⟨eTx HB.out⟩⟩
   ·have bq := decide_eq_false c2
    clear c2
    replace H := bnd H; obtain ⟨bk, A10, H⟩ := H
    obtain rfl := smI H
    go_wp2_with (first | (go_at_call 33; (with_reducible refine (node_Check.calls k1 _ _ l0 bk _ (cW (Kd.C_below HR0.out HB.out)) HC0.out A10.out).mono ?_); rintro e w11 ⟨rfl, hb⟩; replace HB := am (sTx HB.out hb)))
    repeat (go_quiet (first | (go_at_call 33; (with_reducible refine (node_Check.calls k1 _ _ l0 bk _ (cW (Kd.C_below HR0.out HB.out)) HC0.out A10.out).mono ?_); rintro e w11 ⟨rfl, hb⟩; replace HB := am (sTx HB.out hb))); try go_wp2_with (first | (go_at_call 33; (with_reducible refine (node_Check.calls k1 _ _ l0 bk _ (cW (Kd.C_below HR0.out HB.out)) HC0.out A10.out).mono ?_); rintro e w11 ⟨rfl, hb⟩; replace HB := am (sTx HB.out hb))))
    go_ret
    exact ⟨rfF, eTx HB.out⟩

end Go.Proofs.YtknmfmedklfepaaGreatDoor.P
