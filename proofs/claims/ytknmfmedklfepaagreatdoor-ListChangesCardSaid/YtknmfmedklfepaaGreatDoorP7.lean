-- half the indentation
import Derived.Test.YtknmfmedklfepaaGreatDoorReg
import Derived.Test.YtknmfmedklfepaaGreatDoorSqz
import Derived.Test.YtknmfmedklfepaaGreatDoorP0
import Derived.Test.YtknmfmedklfepaaGreatDoorP5
import Derived.Test.YtknmfmedklfepaaGreatDoorP6
namespace Go.Proofs.YtknmfmedklfepaaGreatDoor.P
open Go.RowKit Go.Proofs.YtknmfmedklfepaaGreatDoorW.PrintWords Go.Proofs.YtknmfmedklfepaaGreatDoorW.PrintLast Go.Proofs.YtknmfmedklfepaaGreatDoorW.PrintMore
attribute [local go_sem] max2_int min2_int max_two min_two max_three min_three max_four min_four
set_option linter.unusedVariables false
set_option linter.unusedSimpArgs false
set_option maxHeartbeats 8000000
set_option maxRecDepth 100000

/-! ### graftwoodref03_Split: function 70 -/
mutual
def graftwoodref03_Split.j0 : Nat → ByteArray → Bool → ByteArray → ByteArray → ByteArray → Option (ByteArray × ByteArray × ByteArray × List ByteArray × Bool)
 | 0, _, _, _, _, _ => none
 | k + 1, x0, x17, al, an, ao => if x17 = true then (some (al, an, ao, ([] : List ByteArray), false)) else (graftwoodref03_Split.l0 k x0 (x0.size : Int) (wrap64 ((x0.size : Int) - 1)) al an ao)
def graftwoodref03_Split.l0 : Nat → ByteArray → Int → Int → ByteArray → ByteArray → ByteArray → Option (ByteArray × ByteArray × ByteArray × List ByteArray × Bool)
 | 0, _, _, _, _, _, _ => none
 | k + 1, x0, x5, x6, al, an, ao => if x6 ≥ 0 then (if 0 ≤ x6 then (if x6 < (x0.size : Int) then (if (bt x0 x6) = 45 then (graftwoodref03_Split.l0 k x0 x6 (wrap64 (x6 - 1)) al an ao) else (graftwoodref03_Split.l0 k x0 x5 (wrap64 (x6 - 1)) al an ao)) else (none)) else (none)) else (if 1 ≤ x5 then (if x5 ≤ (x0.size : Int) then ((graftwoodref01_Parts.f k (x0.extract 1 (x5 : Int).toNat) 46).bind fun ab => (if (ab.length : Int) = 3 then (if 0 < (ab.length : Int) then ((graftwoodref02_May.f k (rdOf ByteArray.empty ab 0)).bind fun bm => (if bm = true then (if 1 < (ab.length : Int) then ((graftwoodref02_May.f k (rdOf ByteArray.empty ab 1)).bind fun aN => (if aN = true then (if 2 < (ab.length : Int) then ((graftwoodref02_May.f k (rdOf ByteArray.empty ab 2)).bind fun aD => (graftwoodref03_Split.j2 k x0 x5 ab (!aD) al an ao)) else (none)) else (graftwoodref03_Split.j2 k x0 x5 ab true al an ao))) else (none)) else (graftwoodref03_Split.j2 k x0 x5 ab true al an ao))) else (none)) else (graftwoodref03_Split.j2 k x0 x5 ab true al an ao))) else (none)) else (none))
def graftwoodref03_Split.j2 : Nat → ByteArray → Int → List ByteArray → Bool → ByteArray → ByteArray → ByteArray → Option (ByteArray × ByteArray × ByteArray × List ByteArray × Bool)
 | 0, _, _, _, _, _, _, _ => none
 | k + 1, x0, x5, x7, x60, al, an, ao => if x60 = true then (some (al, an, ao, ([] : List ByteArray), false)) else (if 0 < (x7.length : Int) then (if 1 < (x7.length : Int) then (if 2 < (x7.length : Int) then (if x5 = (x0.size : Int) then (some (rdOf ByteArray.empty x7 0, rdOf ByteArray.empty x7 1, rdOf ByteArray.empty x7 2, ([] : List ByteArray), true)) else (if 0 ≤ (wrap64 (x5 + 1)) then (if (wrap64 (x5 + 1)) ≤ (x0.size : Int) then ((graftwoodref01_Parts.f k (x0.extract ((wrap64 (x5 + 1)) : Int).toNat x0.size) 46).bind fun ap => (graftwoodref03_Split.l1 k 0 (rdOf ByteArray.empty x7 0) (rdOf ByteArray.empty x7 1) (rdOf ByteArray.empty x7 2) ap)) else (none)) else (none))) else (none)) else (none)) else (none))
def graftwoodref03_Split.l1 : Nat → Int → ByteArray → ByteArray → ByteArray → List ByteArray → Option (ByteArray × ByteArray × ByteArray × List ByteArray × Bool)
 | 0, _, _, _, _, _ => none
 | k + 1, x8, al, an, ao, aF => if x8 < (aF.length : Int) then (if 0 ≤ x8 then ((graftwoodref03_Word.f k (rdOf ByteArray.empty aF x8)).bind fun bw => (if bw = true then (graftwoodref03_Split.l1 k (wrap64 (x8 + 1)) al an ao aF) else (some ((⟨#[]⟩ : ByteArray), (⟨#[]⟩ : ByteArray), (⟨#[]⟩ : ByteArray), ([] : List ByteArray), false)))) else (none)) else (some (al, an, ao, aF, true))
end
def graftwoodref03_Split.f (k : Nat) (a0 : ByteArray) : Option (ByteArray × ByteArray × ByteArray × List ByteArray × Bool) := if (a0.size : Int) = 0 then (graftwoodref03_Split.j0 k a0 true (⟨#[]⟩ : ByteArray) (⟨#[]⟩ : ByteArray) (⟨#[]⟩ : ByteArray)) else (if 0 < (a0.size : Int) then (graftwoodref03_Split.j0 k a0 ((bt a0 0) != 118) (⟨#[]⟩ : ByteArray) (⟨#[]⟩ : ByteArray) (⟨#[]⟩ : ByteArray)) else (none))
theorem graftwoodref03_Split.mono_l : ∀ k, (∀ y0 y1 y2 y3 y4, LeO (graftwoodref03_Split.j0 k y0 y1 y2 y3 y4) (graftwoodref03_Split.j0 (k + 1) y0 y1 y2 y3 y4)) ∧ (∀ y0 y1 y2 y3 y4 y5, LeO (graftwoodref03_Split.l0 k y0 y1 y2 y3 y4 y5) (graftwoodref03_Split.l0 (k + 1) y0 y1 y2 y3 y4 y5)) ∧ (∀ y0 y1 y2 y3 y4 y5 y6, LeO (graftwoodref03_Split.j2 k y0 y1 y2 y3 y4 y5 y6) (graftwoodref03_Split.j2 (k + 1) y0 y1 y2 y3 y4 y5 y6)) ∧ (∀ y0 y1 y2 y3 y4, LeO (graftwoodref03_Split.l1 k y0 y1 y2 y3 y4) (graftwoodref03_Split.l1 (k + 1) y0 y1 y2 y3 y4))
 | 0 => ⟨fun _ _ _ _ _ r h => by simp [graftwoodref03_Split.j0] at h, fun _ _ _ _ _ _ r h => by simp [graftwoodref03_Split.l0] at h, fun _ _ _ _ _ _ _ r h => by simp [graftwoodref03_Split.j2] at h, fun _ _ _ _ _ r h => by simp [graftwoodref03_Split.l1] at h⟩
 | k + 1 => by
  obtain ⟨ih0, ih1, ih2, ih3⟩ := graftwoodref03_Split.mono_l k
  refine ⟨?_, ?_, ?_, ?_⟩
  ·intro y0 y1 y2 y3 y4
   unfold graftwoodref03_Split.j0
   repeat' first | (with_reducible first | apply ih0 | apply ih1 | apply ih2 | apply ih3 | apply graftwoodref01_Parts.mono | apply graftwoodref02_May.mono | apply graftwoodref03_Word.mono | apply LeO.refl | apply LeO.none | apply LeO.ite | refine LeO.bind ?_ (fun _ => ?_)) | apply ih0 | apply ih1 | apply ih2 | apply ih3 | apply graftwoodref01_Parts.mono | apply graftwoodref02_May.mono | apply graftwoodref03_Word.mono | exact LeO.none _ | refine LeO.ite ?_ ?_ | refine LeO.bind ?_ (fun _ => ?_)
  ·intro y0 y1 y2 y3 y4 y5
   unfold graftwoodref03_Split.l0
   repeat' first | (with_reducible first | apply ih0 | apply ih1 | apply ih2 | apply ih3 | apply graftwoodref01_Parts.mono | apply graftwoodref02_May.mono | apply graftwoodref03_Word.mono | apply LeO.refl | apply LeO.none | apply LeO.ite | refine LeO.bind ?_ (fun _ => ?_)) | apply ih0 | apply ih1 | apply ih2 | apply ih3 | apply graftwoodref01_Parts.mono | apply graftwoodref02_May.mono | apply graftwoodref03_Word.mono | exact LeO.none _ | refine LeO.ite ?_ ?_ | refine LeO.bind ?_ (fun _ => ?_)
  ·intro y0 y1 y2 y3 y4 y5 y6
   unfold graftwoodref03_Split.j2
   repeat' first | (with_reducible first | apply ih0 | apply ih1 | apply ih2 | apply ih3 | apply graftwoodref01_Parts.mono | apply graftwoodref02_May.mono | apply graftwoodref03_Word.mono | apply LeO.refl | apply LeO.none | apply LeO.ite | refine LeO.bind ?_ (fun _ => ?_)) | apply ih0 | apply ih1 | apply ih2 | apply ih3 | apply graftwoodref01_Parts.mono | apply graftwoodref02_May.mono | apply graftwoodref03_Word.mono | exact LeO.none _ | refine LeO.ite ?_ ?_ | refine LeO.bind ?_ (fun _ => ?_)
  ·intro y0 y1 y2 y3 y4
   unfold graftwoodref03_Split.l1
   repeat' first | (with_reducible first | apply ih0 | apply ih1 | apply ih2 | apply ih3 | apply graftwoodref01_Parts.mono | apply graftwoodref02_May.mono | apply graftwoodref03_Word.mono | apply LeO.refl | apply LeO.none | apply LeO.ite | refine LeO.bind ?_ (fun _ => ?_)) | apply ih0 | apply ih1 | apply ih2 | apply ih3 | apply graftwoodref01_Parts.mono | apply graftwoodref02_May.mono | apply graftwoodref03_Word.mono | exact LeO.none _ | refine LeO.ite ?_ ?_ | refine LeO.bind ?_ (fun _ => ?_)
theorem graftwoodref03_Split.mono : ∀ a0 k, LeO (graftwoodref03_Split.f k a0) (graftwoodref03_Split.f (k + 1) a0) := by
 intro a0 k
 obtain ⟨ih0, ih1, ih2, ih3⟩ := graftwoodref03_Split.mono_l k
 unfold graftwoodref03_Split.f
 repeat' first | (with_reducible first | apply ih0 | apply ih1 | apply ih2 | apply ih3 | apply graftwoodref01_Parts.mono | apply graftwoodref02_May.mono | apply graftwoodref03_Word.mono | apply LeO.refl | apply LeO.none | apply LeO.ite | refine LeO.bind ?_ (fun _ => ?_)) | apply ih0 | apply ih1 | apply ih2 | apply ih3 | apply graftwoodref01_Parts.mono | apply graftwoodref02_May.mono | apply graftwoodref03_Word.mono | exact LeO.none _ | refine LeO.ite ?_ ?_ | refine LeO.bind ?_ (fun _ => ?_)
def graftwoodref03_Split.T13 : Bool × List (List Nat × List Nat) := (true, [([], []), ([0], [0]), ([1], [1]), ([], []), ([3], [3]), ([4], [4]), ([], []), ([6], [6]), ([7], [7]), ([0, 1, 2], []), ([9, 2, 0, 1, 2], [2, 9]), ([0, 1, 2, 3, 4, 5, 9, 10], []), ([11, 5, 10, 0, 1, 2, 3, 4, 5, 9, 10], [5, 11]), ([0, 1, 2, 3, 4, 5, 6, 7, 8, 9, 10, 11, 12], []), ([13, 8, 12, 0, 1, 2, 3, 4, 5, 6, 7, 8, 9, 10, 11, 12], [8, 13])])
def graftwoodref03_Split.B13 : List Nat := [0, 1, 3, 0, 8, 24, 0, 64, 192, 7, 519, 1599, 3647, 8191, 16383]
theorem graftwoodref03_Split.tab13 : rtab .any (opsOf Tryz.f70 13) = graftwoodref03_Split.T13 := by kernel_rfl
theorem graftwoodref03_Split.bits13 : waitsOk graftwoodref03_Split.T13.2 graftwoodref03_Split.B13 = true := by kernel_rfl
theorem graftwoodref03_Split.calls (k : Nat) (a0 : ByteArray) (r1 : ByteArray) (r2 : ByteArray) (r3 : ByteArray) (r4 : List ByteArray) (r5 : Bool) (w : World) (h : graftwoodref03_Split.f k a0 = some (r1, r2, r3, r4, r5)) :
  Calls Tryz.prog 70 #[.string a0] w fun e w' => ∃ v3_ : Value, e = .returned (.tuple #[.agg #[.string r1, .string r2, .string r3, v3_], .bool r5]) ∧ Kd.R Kd.string 9 w' w.heap.size (fun _ => True) v3_ r4 ∧ Below w.heap.size w w' := by
 have hu98 := Tryz.underlying98
 have HB := am (Below.refl w.heap.size w)
 unfold graftwoodref03_Split.f at h; have H := h; clear h
 have HC2 := Aside0.mk H
 clear H
 go_enter Tryz.func70, Tryz.ntmps70
 go_upto_region 2 with (first | ((with_reducible refine gtD 2 ?_); refine xBx 2 98 #[.string (⟨#[]⟩ : ByteArray), .string (⟨#[]⟩ : ByteArray), .string (⟨#[]⟩ : ByteArray), .slice none 0 0] ?_; intro ag hg w3 hbox hb; have ac := am (hbox); have er := am ((gTx hg HB.out)); have es := am ((gTx hg HB.out)); replace HB := am (sTx HB.out hb); clear hb hbox hg) | ((with_reducible refine gtD 4 ?_); refine xBx 4 98 #[.string (⟨#[]⟩ : ByteArray), .string (⟨#[]⟩ : ByteArray), .string (⟨#[]⟩ : ByteArray), .slice none 0 0] ?_; intro ad hg w4 hbox hb; have aa := am (hbox); have et := am ((gTx hg HB.out)); have eu := am ((gTx hg HB.out)); have ae := am ((nT ac.out hg)); have ah := am ((mT ac.out hg)); replace ac := am (bB ac.out hb); replace HB := am (sTx HB.out hb); clear hb hbox hg; have eS := ah.out; have eV := ae.out; obtain ⟨aH, aI, aU, aV, aJ, aK, aW, aX⟩ := bxD aa))
 (try simp only [Act.put, List.setIfInBounds_toArray, List.set_cons_zero, List.set_cons_succ])
 go_cut [17] (fun v17 wc => ∃ (kq : Nat) (bk : Bool), v17 = .bool bk ∧ Aside0 (graftwoodref03_Split.j0 kq a0 bk (⟨#[]⟩ : ByteArray) (⟨#[]⟩ : ByteArray) (⟨#[]⟩ : ByteArray) = some (r1, r2, r3, r4, r5)) ∧ Aside0 (kq ≤ k) ∧ Aside0 (wc.heap[ag]? = some (.cells #[.string (⟨#[]⟩ : ByteArray), .string (⟨#[]⟩ : ByteArray), .string (⟨#[]⟩ : ByteArray), (.slice none 0 0)] 98 (0, 0))) ∧ Aside0 (wc.heap[ad]? = some (.cells #[.string (⟨#[]⟩ : ByteArray), .string (⟨#[]⟩ : ByteArray), .string (⟨#[]⟩ : ByteArray), (.slice none 0 0)] 98 (0, 0))) ∧ Aside0 (Below w.heap.size w wc))
 case first =>
  have H := HC2.out
  clear HC2
  replace H := ifP H; rcases H with ⟨c7, H⟩ | ⟨c7, H⟩
  ·have aY := beq_iff_eq.mpr c7
   have bp := bne_eq_false_iff_eq.mpr c7
   clear c7
   (first | rw [aY] | (simp only [i64_w, i32_w]; rw [aY]) | skip)
   have H' := Aside0.mk H
   clear H
   go_wp2
   go_meet
   case rel => exact ⟨_, (true), rfG, H', ⟨rfO⟩, ⟨kBk⟩, ⟨kBk⟩, ⟨eTx HB.out⟩⟩
  ·have aY := beq_eq_false_iff_ne.mpr c7
   have bp := bne_iff_ne.mpr c7
   (first | rw [aY] | (simp only [i64_w, i32_w]; rw [aY]) | skip)
   replace H := ifN H; obtain ⟨c8, H⟩ := H
   have bx := decide_eq_true c8
   have bz : decide (0 < a0.size) = true := decide_eq_true (by omega)
   clear c8
   have H' := Aside0.mk H
   clear H
   have p9 : 0 ≤ (0 : Int) := (by omega)
   have q9 : 0 < a0.size := (by have : (0 : Int) < (a0.size : Int) := of_decide_eq_true rfA; omega)
   have hx9 : ∀ h : 0 < a0.size, ((a0[0]'h).toNat : Int) = bt a0 0 := bt_at a0 0
   clear p9
   have qi9 : (0 < (a0.size : Int)) = True := eq_true (of_decide_eq_true rfA)
   replace q9 := eq_true q9
   go_wp2
   go_meet
   case rel => exact ⟨_, (((bt a0 0) != 118)), rfG, H', ⟨rfO⟩, ⟨kBk⟩, ⟨kBk⟩, ⟨eTx HB.out⟩⟩
 case rest =>
  clear HC2
  obtain ⟨kq, bk, rfl, HA, HJ1, ac, aa, HB⟩ := hcut
  cases kq with
  | zero => exact absurd HA.out (by simp [graftwoodref03_Split.j0])
  | succ kj1 =>
   have H := HA.out
   clear HA
   simp only [graftwoodref03_Split.j0] at H
   replace H := ifB H; rcases H with ⟨rfl, H⟩ | ⟨rfl, H⟩
   ·simp only [Option.some.injEq, Prod.mk.injEq] at H
    obtain ⟨rfl, rfl, rfl, rfl, rfl⟩ := H
    have ev := ah.out
    have ew := ae.out
    obtain ⟨aZ, a2, a3, a4, a5, a6, a7, a8⟩ := bxD aa
    obtain ⟨a9, a_, bb, bc, be, bf, bg, bh⟩ := bxD ac
    go_wp2
    refine bodyPost_ret (results_ct rfl _ _ ag 98 #[.string (⟨#[]⟩ : ByteArray), .string (⟨#[]⟩ : ByteArray), .string (⟨#[]⟩ : ByteArray), .slice none 0 0] (0, 0) _ rfl kBk Tryz.underlying98 rfl rfK) rfl ?_
    exact ⟨_, rfF, rfM, eTx HB.out⟩
   ·have H' := Aside0.mk H
    clear H
    go_wp2
    go_loopg [5, 6] kj1 (fun kq v5 v6 w' => ∃ (ak : Int) (az : Int), v5 = .int .i64 ak ∧ v6 = .int .i64 az ∧ Aside0 (graftwoodref03_Split.l0 kq a0 ak az (⟨#[]⟩ : ByteArray) (⟨#[]⟩ : ByteArray) (⟨#[]⟩ : ByteArray) = some (r1, r2, r3, r4, r5)) ∧ Aside0 (kq ≤ kj1) ∧ Aside0 (w'.heap[ag]? = some (.cells #[.string (⟨#[]⟩ : ByteArray), .string (⟨#[]⟩ : ByteArray), .string (⟨#[]⟩ : ByteArray), (.slice none 0 0)] 98 (0, 0))) ∧ Aside0 (w'.heap[ad]? = some (.cells #[.string (⟨#[]⟩ : ByteArray), .string (⟨#[]⟩ : ByteArray), .string (⟨#[]⟩ : ByteArray), (.slice none 0 0)] 98 (0, 0))) ∧ Aside0 (Below w.heap.size w w'))
    case atStart => exact ⟨((a0.size : Int)), (wrap64 ((a0.size : Int) - 1)), rfG, rfG, H', ⟨Nat.le_refl _⟩, ⟨bT ac.out⟩, ⟨bT aa.out⟩, ⟨eTx HB.out⟩⟩
    case round =>
     clear H'
     obtain ⟨ak, az, rfl, rfl, HA, HK2, ac, aa, HB⟩ := hrel
     cases gk with
     | zero => exact absurd HA.out (by simp [graftwoodref03_Split.l0])
     | succ k2 =>
      have H := HA.out
      clear HA
      simp only [graftwoodref03_Split.l0] at H
      replace H := ifP H; rcases H with ⟨c14, H⟩ | ⟨c14, H⟩
      ·have bq : decide (0 ≤ az) = true := decide_eq_true c14
       clear c14
       replace H := ifN H; obtain ⟨c15, H⟩ := H
       have ci := decide_eq_true c15
       clear c15
       replace H := ifN H; obtain ⟨c16, H⟩ := H
       have cj := decide_eq_true c16
       clear c16
       replace H := ifP H; rcases H with ⟨c18, H⟩ | ⟨c18, H⟩
       ·have br := beq_iff_eq.mpr c18
        have bs := bne_eq_false_iff_eq.mpr c18
        clear c18
        have H' := Aside0.mk H
        clear H
        have p17 : 0 ≤ (az : Int) := of_decide_eq_true rfA
        have q17 : az < (a0.size : Int) := of_decide_eq_true rfA
        have cy := bt_at a0 az
        replace p17 := eq_true p17
        replace q17 := eq_true q17
        go_wp2
        go_roundg k2
        case measure => have := HJ1.out; have := HK2.out; omega
        case rel => exact ⟨(az), (wrap64 (az - 1)), rfG, rfG, H', ⟨by have := HJ1.out; have := HK2.out; omega⟩, ⟨bT ac.out⟩, ⟨bT aa.out⟩, ⟨eTx HB.out⟩⟩
       ·have br := beq_eq_false_iff_ne.mpr c18
        have bs := bne_iff_ne.mpr c18
        have H' := Aside0.mk H
        clear H
        have p17 : 0 ≤ (az : Int) := of_decide_eq_true rfA
        have q17 : az < (a0.size : Int) := of_decide_eq_true rfA
        have cy := bt_at a0 az
        replace p17 := eq_true p17
        replace q17 := eq_true q17
        go_wp2
        go_roundg k2
        case measure => have := HJ1.out; have := HK2.out; omega
        case rel => exact ⟨(ak), (wrap64 (az - 1)), rfG, rfG, H', ⟨by have := HJ1.out; have := HK2.out; omega⟩, ⟨bT ac.out⟩, ⟨bT aa.out⟩, ⟨eTx HB.out⟩⟩
      ·have bq : decide (0 ≤ az) = false := decide_eq_false c14
       clear c14
       replace H := ifP H; rcases H with ⟨c19, H⟩ | ⟨c19, H⟩
       ·have ck := eq_true c19
        have cl := decide_eq_true c19
        clear c19
        replace H := ifN H; obtain ⟨c20, H⟩ := H
        have cm := eq_true c20
        have cn := decide_eq_true c20
        clear c20
        replace H := bnd H; obtain ⟨ab, A21, H⟩ := H
        have cz := Aside0.mk H
        clear H
        go_upto_region 11 with (first | ((with_reducible refine gtC 38 ?_); refine xCl 36 Tryz.func38 (graftwoodref01_Parts.calls k2 (a0.extract 1 (ak : Int).toNat) 46 ab _ A21.out) ?_; rintro e w23 ⟨d4, rfl, ho0, hb⟩; refine ⟨_, rfl, ?_⟩; have aA := am (Kd.R_lower ho0 (below_size (eTx HB.out))); replace ac := am (bB ac.out hb); replace aa := am (bB aa.out hb); replace HB := am (sTx HB.out hb)))
        (try simp only [Act.put, List.setIfInBounds_toArray, List.set_cons_zero, List.set_cons_succ])
        go_cut [60] (fun v60 wc => ∃ (kq : Nat) (bi : Bool), v60 = .bool bi ∧ Aside0 (graftwoodref03_Split.j2 kq a0 ak ab bi (⟨#[]⟩ : ByteArray) (⟨#[]⟩ : ByteArray) (⟨#[]⟩ : ByteArray) = some (r1, r2, r3, r4, r5)) ∧ Aside0 (kq ≤ k2) ∧ Aside0 (Kd.R Kd.string 9 wc w.heap.size (fun _ => True) d4 ab) ∧ Aside0 (wc.heap[ag]? = some (.cells #[.string (⟨#[]⟩ : ByteArray), .string (⟨#[]⟩ : ByteArray), .string (⟨#[]⟩ : ByteArray), (.slice none 0 0)] 98 (0, 0))) ∧ Aside0 (wc.heap[ad]? = some (.cells #[.string (⟨#[]⟩ : ByteArray), .string (⟨#[]⟩ : ByteArray), .string (⟨#[]⟩ : ByteArray), (.slice none 0 0)] 98 (0, 0))) ∧ Aside0 (Below w.heap.size w wc))
        case first =>
         have H := cz.out
         clear cz
         replace H := ifP H; rcases H with ⟨c24, H⟩ | ⟨c24, H⟩
         ·have aL := beq_iff_eq.mpr c24
          have bu := bne_eq_false_iff_eq.mpr c24
          clear c24
          (first | rw [aL] | (simp only [i64_w, i32_w]; rw [aL]) | skip)
          replace H := ifN H; obtain ⟨c25, H⟩ := H
          have co := decide_eq_true c25
          have cp : decide (0 < ab.length) = true := decide_eq_true (by omega)
          clear c25
          replace H := bnd H; obtain ⟨bm, A26, H⟩ := H
          replace H := ifB H; rcases H with ⟨rfl, H⟩ | ⟨rfl, H⟩
          ·replace H := ifN H; obtain ⟨c28, H⟩ := H
           have cq := decide_eq_true c28
           have cr : decide (1 < ab.length) = true := decide_eq_true (by omega)
           clear c28
           replace H := bnd H; obtain ⟨aN, A29, H⟩ := H
           replace H := ifB H; rcases H with ⟨rfl, H⟩ | ⟨rfl, H⟩
           ·replace H := ifN H; obtain ⟨c31, H⟩ := H
            have ct := decide_eq_true c31
            have cu : decide (2 < ab.length) = true := decide_eq_true (by omega)
            clear c31
            replace H := bnd H; obtain ⟨aD, A32, H⟩ := H
            have H' := Aside0.mk H
            clear H
            obtain ⟨eW, eX, d5⟩ := Kd.R_slice aA.out
            subst d5
            have p131 : 0 ≤ (0 : Int) := (by omega)
            have q131 : 0 < (ab.length : Int) := of_decide_eq_true rfA
            obtain ⟨ad131, e131, av⟩ := Kd.at_string (Kd.R_reads' aA.out).2.2 0 p131 q131
            cases e131
            have qi131 : (0 < ab.length) = True := eq_true (by omega)
            (try rw [show ((0 : Int)).toNat = 0 from rfl] at av)
            (try rw [Addr.add_zero'] at av)
            replace p131 := eq_true p131
            replace q131 := eq_true q131
            go_wp2_with (first | (go_at_call 96; (with_reducible refine (graftwoodref02_May.calls k2 (rdOf ByteArray.empty ab 0) true _ A26.out).mono ?_); rintro e w' ⟨rfl, ⟨nd, rfl⟩⟩; have p133 : 0 ≤ (1 : Int) := (by omega); have q133 : 1 < (ab.length : Int) := of_decide_eq_true rfA; obtain ⟨ad133, e133, aC⟩ := Kd.at_string (Kd.R_reads' aA.out).2.2 1 p133 q133; obtain rfl : ad131 = ad133 := (by injection e133); (try simp only [show (1 : Int).toNat = 1 from rfl, Nat.reduceMul, Nat.reduceEqDiff, Go.Addr.add, ↓reduceIte] at aC); have qi133 : (1 < ab.length) = True := eq_true (by omega); (try rw [show ((1 : Int)).toNat = 1 from rfl] at aC); replace p133 := eq_true p133; replace q133 := eq_true q133) | (go_at_call 96; (with_reducible refine (graftwoodref02_May.calls k2 (rdOf ByteArray.empty ab 1) true _ A29.out).mono ?_); rintro e w' ⟨rfl, ⟨nd, rfl⟩⟩; have p135 : 0 ≤ (2 : Int) := (by omega); have q135 : 2 < (ab.length : Int) := of_decide_eq_true rfA; obtain ⟨ad135, e135, aG⟩ := Kd.at_string (Kd.R_reads' aA.out).2.2 2 p135 q135; obtain rfl : ad131 = ad135 := (by injection e135); (try simp only [show (2 : Int).toNat = 2 from rfl, Nat.reduceMul, Nat.reduceEqDiff, Go.Addr.add, ↓reduceIte] at aG); have qi135 : (2 < ab.length) = True := eq_true (by omega); (try rw [show ((2 : Int)).toNat = 2 from rfl] at aG); replace p135 := eq_true p135; replace q135 := eq_true q135) | (go_at_call 96; (with_reducible refine (graftwoodref02_May.calls k2 (rdOf ByteArray.empty ab 2) aD _ A32.out).mono ?_); rintro e w' ⟨rfl, ⟨nd, rfl⟩⟩))
            go_meet
            case rel => exact ⟨_, (!aD), rfG, H', ⟨by have := HJ1.out; have := HK2.out; first | omega | exact Nat.le_refl _⟩, ⟨rT aA.out⟩, ⟨bT ac.out⟩, ⟨bT aa.out⟩, ⟨eTx HB.out⟩⟩
           ·have H' := Aside0.mk H
            clear H
            obtain ⟨eY, eZ, d6⟩ := Kd.R_slice aA.out
            subst d6
            have p131 : 0 ≤ (0 : Int) := (by omega)
            have q131 : 0 < (ab.length : Int) := of_decide_eq_true rfA
            obtain ⟨ad131, e131, av⟩ := Kd.at_string (Kd.R_reads' aA.out).2.2 0 p131 q131
            cases e131
            have qi131 : (0 < ab.length) = True := eq_true (by omega)
            (try rw [show ((0 : Int)).toNat = 0 from rfl] at av)
            (try rw [Addr.add_zero'] at av)
            replace p131 := eq_true p131
            replace q131 := eq_true q131
            go_wp2_with (first | (go_at_call 96; (with_reducible refine (graftwoodref02_May.calls k2 (rdOf ByteArray.empty ab 0) true _ A26.out).mono ?_); rintro e w' ⟨rfl, ⟨nd, rfl⟩⟩; have p133 : 0 ≤ (1 : Int) := (by omega); have q133 : 1 < (ab.length : Int) := of_decide_eq_true rfA; obtain ⟨ad133, e133, aC⟩ := Kd.at_string (Kd.R_reads' aA.out).2.2 1 p133 q133; obtain rfl : ad131 = ad133 := (by injection e133); (try simp only [show (1 : Int).toNat = 1 from rfl, Nat.reduceMul, Nat.reduceEqDiff, Go.Addr.add, ↓reduceIte] at aC); have qi133 : (1 < ab.length) = True := eq_true (by omega); (try rw [show ((1 : Int)).toNat = 1 from rfl] at aC); replace p133 := eq_true p133; replace q133 := eq_true q133) | (go_at_call 96; (with_reducible refine (graftwoodref02_May.calls k2 (rdOf ByteArray.empty ab 1) false _ A29.out).mono ?_); rintro e w' ⟨rfl, ⟨nd, rfl⟩⟩))
            go_meet
            case rel => exact ⟨_, (true), rfG, H', ⟨by have := HJ1.out; have := HK2.out; first | omega | exact Nat.le_refl _⟩, ⟨rT aA.out⟩, ⟨bT ac.out⟩, ⟨bT aa.out⟩, ⟨eTx HB.out⟩⟩
          ·have H' := Aside0.mk H
           clear H
           obtain ⟨e0, e1, d7⟩ := Kd.R_slice aA.out
           subst d7
           have p131 : 0 ≤ (0 : Int) := (by omega)
           have q131 : 0 < (ab.length : Int) := of_decide_eq_true rfA
           obtain ⟨ad131, e131, av⟩ := Kd.at_string (Kd.R_reads' aA.out).2.2 0 p131 q131
           cases e131
           have qi131 : (0 < ab.length) = True := eq_true (by omega)
           (try rw [show ((0 : Int)).toNat = 0 from rfl] at av)
           (try rw [Addr.add_zero'] at av)
           replace p131 := eq_true p131
           replace q131 := eq_true q131
           go_wp2_with (first | (go_at_call 96; (with_reducible refine (graftwoodref02_May.calls k2 (rdOf ByteArray.empty ab 0) false _ A26.out).mono ?_); rintro e w' ⟨rfl, ⟨nd, rfl⟩⟩))
           go_meet
           case rel => exact ⟨_, (true), rfG, H', ⟨by have := HJ1.out; have := HK2.out; first | omega | exact Nat.le_refl _⟩, ⟨rT aA.out⟩, ⟨bT ac.out⟩, ⟨bT aa.out⟩, ⟨eTx HB.out⟩⟩
         ·have aL := beq_eq_false_iff_ne.mpr c24
          have bu := bne_iff_ne.mpr c24
          (first | rw [aL] | (simp only [i64_w, i32_w]; rw [aL]) | skip)
          have H' := Aside0.mk H
          clear H
          obtain ⟨e2, e3, d8⟩ := Kd.R_slice aA.out
          subst d8
          go_wp2
          go_meet
          case rel => exact ⟨_, (true), rfG, H', ⟨by have := HJ1.out; have := HK2.out; first | omega | exact Nat.le_refl _⟩, ⟨rT aA.out⟩, ⟨bT ac.out⟩, ⟨bT aa.out⟩, ⟨eTx HB.out⟩⟩
        case rest =>
         clear cz
         obtain ⟨kq, bi, rfl, HA, cE, af, ac, aa, HB⟩ := hcut
         cases kq with
         | zero => exact absurd HA.out (by simp [graftwoodref03_Split.j2])
         | succ kj21 =>
          have H := HA.out
          clear HA
          simp only [graftwoodref03_Split.j2] at H
          replace H := ifB H; rcases H with ⟨rfl, H⟩ | ⟨rfl, H⟩
          ·simp only [Option.some.injEq, Prod.mk.injEq] at H
           obtain ⟨rfl, rfl, rfl, rfl, rfl⟩ := H
           have ex := ah.out
           have ey := ae.out
           obtain ⟨bC, bD, bE, bF, bG, bH, bI, bJ⟩ := bxD aa
           obtain ⟨bK, bL, bM, bN, bO, bP, bQ, bR⟩ := bxD ac
           go_wp2
           refine bodyPost_ret (results_ct rfl _ _ ag 98 #[.string (⟨#[]⟩ : ByteArray), .string (⟨#[]⟩ : ByteArray), .string (⟨#[]⟩ : ByteArray), .slice none 0 0] (0, 0) _ rfl kBk Tryz.underlying98 rfl rfK) rfl ?_
           exact ⟨_, rfF, rfM, eTx HB.out⟩
          ·replace H := ifN H; obtain ⟨c41, H⟩ := H
           have cF := decide_eq_true c41
           have cG : decide (0 < ab.length) = true := decide_eq_true (by omega)
           clear c41
           replace H := ifN H; obtain ⟨c42, H⟩ := H
           have cH := decide_eq_true c42
           have cI : decide (1 < ab.length) = true := decide_eq_true (by omega)
           clear c42
           replace H := ifN H; obtain ⟨c43, H⟩ := H
           have cJ := decide_eq_true c43
           have cK : decide (2 < ab.length) = true := decide_eq_true (by omega)
           clear c43
           replace H := ifP H; rcases H with ⟨c44, H⟩ | ⟨c44, H⟩
           ·have cv := beq_iff_eq.mpr c44
            have cw := bne_eq_false_iff_eq.mpr c44
            clear c44
            simp only [Option.some.injEq, Prod.mk.injEq] at H
            obtain ⟨rfl, rfl, rfl, rfl, rfl⟩ := H
            try go_wp2
            replace af := am (Kd.R_drew af.out)
            replace ac := am (blk_drew ac.out)
            replace aa := am (blk_drew aa.out)
            replace HB := am (below_drew1 HB.out)
            obtain ⟨e4, e5, cL⟩ := Kd.R_slice af.out
            (first | subst cL | (injection cL with f1_ f2_ f3_; have f4_ := f1_.symm; have f5_ := f3_.symm; clear f1_ f2_ f3_; subst f4_; subst f5_))
            have p137 : 0 ≤ (0 : Int) := (by omega)
            have q137 : 0 < (ab.length : Int) := of_decide_eq_true rfA
            obtain ⟨ad137, e137, aw⟩ := Kd.at_string (Kd.R_reads' af.out).2.2 0 p137 q137
            cases e137
            have qi137 : (0 < ab.length) = True := eq_true (by omega)
            (try rw [show ((0 : Int)).toNat = 0 from rfl] at aw)
            (try rw [Addr.add_zero'] at aw)
            replace p137 := eq_true p137
            replace q137 := eq_true q137
            have p138 : 0 ≤ (1 : Int) := (by omega)
            have q138 : 1 < (ab.length : Int) := of_decide_eq_true rfA
            obtain ⟨ad138, e138, ax⟩ := Kd.at_string (Kd.R_reads' af.out).2.2 1 p138 q138
            obtain rfl : ad137 = ad138 := (by injection e138)
            (try simp only [show (1 : Int).toNat = 1 from rfl, Nat.reduceMul, Nat.reduceEqDiff, Go.Addr.add, ↓reduceIte] at ax)
            have qi138 : (1 < ab.length) = True := eq_true (by omega)
            (try rw [show ((1 : Int)).toNat = 1 from rfl] at ax)
            replace p138 := eq_true p138
            replace q138 := eq_true q138
            have p139 : 0 ≤ (2 : Int) := (by omega)
            have q139 : 2 < (ab.length : Int) := of_decide_eq_true rfA
            obtain ⟨ad139, e139, ay⟩ := Kd.at_string (Kd.R_reads' af.out).2.2 2 p139 q139
            obtain rfl : ad137 = ad139 := (by injection e139)
            (try simp only [show (2 : Int).toNat = 2 from rfl, Nat.reduceMul, Nat.reduceEqDiff, Go.Addr.add, ↓reduceIte] at ay)
            have qi139 : (2 < ab.length) = True := eq_true (by omega)
            (try rw [show ((2 : Int)).toNat = 2 from rfl] at ay)
            replace p139 := eq_true p139
            replace q139 := eq_true q139
            refine start_ (n := 15) (S := fun w' => w'.cell? ad137 = some (.string (rdOf ByteArray.empty ab 0)) ∧ w'.cell? ⟨ad137.block, ad137.off + 1, none⟩ = some (.string (rdOf ByteArray.empty ab 1)) ∧ w'.cell? ⟨ad137.block, ad137.off + 2, none⟩ = some (.string (rdOf ByteArray.empty ab 2))) (ds := []) (bA 15 0) rfK rfl rfK ⟨aw, ax, ay⟩ (fun hHeld => ?_); refine with_tabW graftwoodref03_Split.tab13 graftwoodref03_Split.bits13 (fun HT_ HW_ => ?_)
            generalize wc.drew = w45 at af ac aa HB aw ax ay hHeld ⊢
            iterate 2 refine zT HT_ ?_
            refine zL HT_ HW_ hHeld ?_
            iterate 2 refine zT HT_ ?_
            refine zL HT_ HW_ hHeld ?_
            iterate 2 refine zT HT_ ?_
            refine zL HT_ HW_ hHeld ?_
            refine zT HT_ ?_
            refine zO HT_ fun K hK => ?_
            obtain ⟨e6, ez⟩ := bxA aa
            have cZ := ae.out
            have c0 := ah.out
            refine skip_ (w1 := ?_) (by rfl) rfl ?_ ?_
            rotate_left
            ·go_simp
             rfl
            refine hK.out _ _ kCl (fun hHeld => ?_)
            clear hK K
            refine zT HT_ ?_
            refine zO HT_ fun K hK => ?_
            have e7 : w45.cell? ⟨ad, 1, none⟩ = some (.string (⟨#[]⟩ : ByteArray)) := cT aa 1
            have eA := blk_frozen aa.out 1
            have c9 := ae.out
            have c_ := ah.out
            refine skip_ (w1 := ?_) (by rfl) rfl ?_ ?_
            rotate_left
            ·go_simp
             rfl
            refine hK.out _ _ kCl (fun hHeld => ?_)
            clear hK K
            refine zT HT_ ?_
            refine zO HT_ fun K hK => ?_
            have e8 : w45.cell? ⟨ad, 2, none⟩ = some (.string (⟨#[]⟩ : ByteArray)) := cT aa 2
            have eB := blk_frozen aa.out 2
            have da := ae.out
            have db := ah.out
            refine skip_ (w1 := ?_) (by rfl) rfl ?_ ?_
            rotate_left
            ·go_simp
             rfl
            refine hK.out _ _ kCl (fun hHeld => ?_)
            clear hK K
            refine done_ (done_of HT_.out rfK) ?_
            have eC := ah.out
            have eD := ae.out
            obtain ⟨bS, bU, bV, bW, bX, bZ, b0, b1⟩ := bxD aa
            obtain ⟨b2, b3, b4, b5, b6, b7, b8, b9⟩ := bxD ac
            try go_wp2
            refine bodyPost_ret (results_ct rfl _ _ ag 98 #[.string (rdOf ByteArray.empty ab 0), .string (rdOf ByteArray.empty ab 1), .string (rdOf ByteArray.empty ab 2), .slice none 0 0] (0, 0) _ rfl kBk Tryz.underlying98 rfl rfK) rfl ?_
            exact ⟨_, rfF, rfM, eTx HB.out⟩
           ·have cv := beq_eq_false_iff_ne.mpr c44
            have cw := bne_iff_ne.mpr c44
            obtain ⟨aO, aR⟩ : ∃ j_ : Int, (wrap64 (ak + 1)) = j_ := ⟨_, rfl⟩
            replace H : (if 0 ≤ (aO) then (if (aO) ≤ (a0.size : Int) then ((graftwoodref01_Parts.f kj21 (a0.extract ((aO) : Int).toNat a0.size) 46).bind fun ap => (graftwoodref03_Split.l1 kj21 0 (rdOf ByteArray.empty ab 0) (rdOf ByteArray.empty ab 1) (rdOf ByteArray.empty ab 2) ap)) else (none)) else (none)) = some (r1, r2, r3, r4, r5) := by first | (rw [aR] at H; exact H) | (simp only [aR] at H ⊢; exact H)
            have d_ : (IntKind.i64.wrap (ak + 1)) = aO := (i64_w _).trans aR
            replace H := ifN H; obtain ⟨c54, H⟩ := H
            have cM := eq_true c54
            have cN := decide_eq_true c54
            clear c54
            replace H := ifN H; obtain ⟨c55, H⟩ := H
            have cO := eq_true c55
            have cP := decide_eq_true c55
            clear c55
            replace H := bnd H; obtain ⟨ap, A56, H⟩ := H
            have H' := Aside0.mk H
            clear H
            try go_wp2
            replace af := am (Kd.R_drew af.out)
            replace ac := am (blk_drew ac.out)
            replace aa := am (blk_drew aa.out)
            replace HB := am (below_drew1 HB.out)
            obtain ⟨e9, e_, cR⟩ := Kd.R_slice af.out
            (first | subst cR | (injection cR with f1_ f2_ f3_; have f4_ := f1_.symm; have f5_ := f3_.symm; clear f1_ f2_ f3_; subst f4_; subst f5_))
            have p137 : 0 ≤ (0 : Int) := (by omega)
            have q137 : 0 < (ab.length : Int) := of_decide_eq_true rfA
            obtain ⟨ad137, e137, aw⟩ := Kd.at_string (Kd.R_reads' af.out).2.2 0 p137 q137
            cases e137
            have qi137 : (0 < ab.length) = True := eq_true (by omega)
            (try rw [show ((0 : Int)).toNat = 0 from rfl] at aw)
            (try rw [Addr.add_zero'] at aw)
            replace p137 := eq_true p137
            replace q137 := eq_true q137
            have p138 : 0 ≤ (1 : Int) := (by omega)
            have q138 : 1 < (ab.length : Int) := of_decide_eq_true rfA
            obtain ⟨ad138, e138, ax⟩ := Kd.at_string (Kd.R_reads' af.out).2.2 1 p138 q138
            obtain rfl : ad137 = ad138 := (by injection e138)
            (try simp only [show (1 : Int).toNat = 1 from rfl, Nat.reduceMul, Nat.reduceEqDiff, Go.Addr.add, ↓reduceIte] at ax)
            have qi138 : (1 < ab.length) = True := eq_true (by omega)
            (try rw [show ((1 : Int)).toNat = 1 from rfl] at ax)
            replace p138 := eq_true p138
            replace q138 := eq_true q138
            have p139 : 0 ≤ (2 : Int) := (by omega)
            have q139 : 2 < (ab.length : Int) := of_decide_eq_true rfA
            obtain ⟨ad139, e139, ay⟩ := Kd.at_string (Kd.R_reads' af.out).2.2 2 p139 q139
            obtain rfl : ad137 = ad139 := (by injection e139)
            (try simp only [show (2 : Int).toNat = 2 from rfl, Nat.reduceMul, Nat.reduceEqDiff, Go.Addr.add, ↓reduceIte] at ay)
            have qi139 : (2 < ab.length) = True := eq_true (by omega)
            (try rw [show ((2 : Int)).toNat = 2 from rfl] at ay)
            replace p139 := eq_true p139
            replace q139 := eq_true q139
            refine start_ (n := 15) (S := fun w' => w'.cell? ad137 = some (.string (rdOf ByteArray.empty ab 0)) ∧ w'.cell? ⟨ad137.block, ad137.off + 1, none⟩ = some (.string (rdOf ByteArray.empty ab 1)) ∧ w'.cell? ⟨ad137.block, ad137.off + 2, none⟩ = some (.string (rdOf ByteArray.empty ab 2))) (ds := []) (bA 15 0) rfK rfl rfK ⟨aw, ax, ay⟩ (fun hHeld => ?_); refine with_tabW graftwoodref03_Split.tab13 graftwoodref03_Split.bits13 (fun HT_ HW_ => ?_)
            generalize wc.drew = w57 at af ac aa HB aw ax ay hHeld ⊢
            iterate 2 refine zT HT_ ?_
            refine zL HT_ HW_ hHeld ?_
            iterate 2 refine zT HT_ ?_
            refine zL HT_ HW_ hHeld ?_
            iterate 2 refine zT HT_ ?_
            refine zL HT_ HW_ hHeld ?_
            refine zT HT_ ?_
            refine zO HT_ fun K hK => ?_
            obtain ⟨fa, eE⟩ := bxA aa
            have dc := ae.out
            have dd := ah.out
            refine skip_ (w1 := ?_) (by rfl) rfl ?_ ?_
            rotate_left
            ·go_simp
             rfl
            refine hK.out _ _ kCl (fun hHeld => ?_)
            clear hK K
            refine zT HT_ ?_
            refine zO HT_ fun K hK => ?_
            have fb : w57.cell? ⟨ad, 1, none⟩ = some (.string (⟨#[]⟩ : ByteArray)) := cT aa 1
            have eF := blk_frozen aa.out 1
            have de := ae.out
            have df := ah.out
            refine skip_ (w1 := ?_) (by rfl) rfl ?_ ?_
            rotate_left
            ·go_simp
             rfl
            refine hK.out _ _ kCl (fun hHeld => ?_)
            clear hK K
            refine zT HT_ ?_
            refine zO HT_ fun K hK => ?_
            have fc : w57.cell? ⟨ad, 2, none⟩ = some (.string (⟨#[]⟩ : ByteArray)) := cT aa 2
            have eG := blk_frozen aa.out 2
            have dg := ae.out
            have dh := ah.out
            refine skip_ (w1 := ?_) (by rfl) rfl ?_ ?_
            rotate_left
            ·go_simp
             rfl
            refine hK.out _ _ kCl (fun hHeld => ?_)
            clear hK K
            refine done_ (done_of HT_.out rfK) ?_
            try go_wp2_with (first | ((with_reducible refine gate_callee (f := 38) rfl ?_); refine goesL_ (some 83) rfl rfl Tryz.func38 rfK rfl #[.string (a0.extract ((aO) : Int).toNat a0.size), .int .u8 46] rfl (by (try simp only [List.map_toArray, List.map_cons, List.map_nil]); first | done | (simp only [aR]; rfl) | rfl | (simp only [List.length_drop, List.length_take]; rfl)) ?_; (with_reducible refine (graftwoodref01_Parts.calls kj21 (a0.extract ((aO) : Int).toNat a0.size) 46 ap _ A56.out).mono ?_); rintro e w62 ⟨fd, rfl, ho0, hb⟩; refine ⟨_, rfl, ?_⟩; have cx := am (Kd.R_lower (Kd.R_new' ho0 (Kd.R_lt (by (with_reducible repeat (first | apply Kd.R_alloc | apply Kd.R_drewN | apply Kd.R_drew)); exact (Kd.R_mono (Kd.R_far (p := ⟨ad, 2, none⟩) (Kd.R_far (p := ⟨ad, 1, none⟩) (Kd.R_far (p := ⟨ad, 0, none⟩) (Kd.R_types af.out aa.out (by decide)) (fun _ hk => hk.2) (.string (rdOf ByteArray.empty ab 0))) (fun _ hk => hk.2) (.string (rdOf ByteArray.empty ab 1))) (fun _ hk => hk.2) (.string (rdOf ByteArray.empty ab 2))) (fun _ h_ => h_.1))))) (below_size (eTx HB.out))); replace ac := am (blk_below (g := ag) (o := .cells #[.string (⟨#[]⟩ : ByteArray), .string (⟨#[]⟩ : ByteArray), .string (⟨#[]⟩ : ByteArray), .slice none 0 0] 98 (0, 0)) kBk hb); replace af := am (Kd.R_elder' (by (with_reducible repeat (first | apply Kd.R_alloc | apply Kd.R_drewN | apply Kd.R_drew)); exact (Kd.R_mono (Kd.R_far (p := ⟨ad, 2, none⟩) (Kd.R_far (p := ⟨ad, 1, none⟩) (Kd.R_far (p := ⟨ad, 0, none⟩) (Kd.R_types af.out aa.out (by decide)) (fun _ hk => hk.2) (.string (rdOf ByteArray.empty ab 0))) (fun _ hk => hk.2) (.string (rdOf ByteArray.empty ab 1))) (fun _ hk => hk.2) (.string (rdOf ByteArray.empty ab 2))) (fun _ h_ => h_.1))) (Kd.R_base ho0) hb); replace HB := am (sTx HB.out hb); replace aa := am (blk_below (g := ad) (o := .cells #[.string (rdOf ByteArray.empty ab 0), .string (rdOf ByteArray.empty ab 1), .string (rdOf ByteArray.empty ab 2), .slice none 0 0] 98 (0, 0)) kBk hb); obtain ⟨bj, aP, ea⟩ := Kd.R_slice cx.out; subst ea; have eH := ah.out; have eI := ae.out; obtain ⟨b_, ca, cb, cc, cd, ce, cf, cg⟩ := bxD aa))
            go_loopg [8] kj21 (fun kq v8 w' => ∃ (aB : Int) (aq : ByteArray) (aj : ByteArray) (ai : ByteArray), v8 = .int .i64 aB ∧ Aside0 (graftwoodref03_Split.l1 kq aB (rdOf ByteArray.empty ab 0) (rdOf ByteArray.empty ab 1) (rdOf ByteArray.empty ab 2) ap = some (r1, r2, r3, r4, r5)) ∧ Aside0 (kq ≤ kj21) ∧ Aside0 (Kd.R Kd.string 9 w' w.heap.size (fun _ => True) (.slice bj ap.length aP) ap) ∧ Aside0 (w'.heap[ag]? = some (.cells #[.string aq, .string aj, .string ai, (.slice none 0 0)] 98 (0, 0))) ∧ Aside0 (w'.heap[ad]? = some (.cells #[.string (rdOf ByteArray.empty ab 0), .string (rdOf ByteArray.empty ab 1), .string (rdOf ByteArray.empty ab 2), (.slice bj ap.length aP)] 98 (0, 0))) ∧ Aside0 (Below w.heap.size w w'))
            case atStart => exact ⟨(0), ((⟨#[]⟩ : ByteArray)), ((⟨#[]⟩ : ByteArray)), ((⟨#[]⟩ : ByteArray)), rfG, H', ⟨Nat.le_refl _⟩, ⟨by (with_reducible repeat (first | apply Kd.R_alloc | apply Kd.R_drewN | apply Kd.R_drew)); exact Kd.R_mono (Kd.R_far (p := ⟨ad, 3, none⟩) (Kd.R_types cx.out aa.out (by decide)) (fun _ hk => hk.2) (.slice bj ap.length aP)) (fun _ hk => trivial)⟩, ⟨kBk⟩, ⟨kBk⟩, ⟨eTx HB.out⟩⟩
            case round =>
             clear H'
             obtain ⟨aB, aq, aj, ai, rfl, HA, HK4, au, ac, aa, HB⟩ := hrel
             cases gk with
             | zero => exact absurd HA.out (by simp [graftwoodref03_Split.l1])
             | succ k4 =>
              have H := HA.out
              clear HA
              simp only [graftwoodref03_Split.l1] at H
              replace H := ifP H; rcases H with ⟨c66, H⟩ | ⟨c66, H⟩
              ·have cS := decide_eq_true c66
               clear c66
               replace H := ifN H; obtain ⟨c67, H⟩ := H
               have eJ := decide_eq_true c67
               clear c67
               replace H := bnd H; obtain ⟨bw, A68, H⟩ := H
               replace H := ifB H; rcases H with ⟨rfl, H⟩ | ⟨rfl, H⟩
               ·have H' := Aside0.mk H
                clear H
                have eK := ah.out
                have eL := ae.out
                obtain ⟨di, dj, dk, dl, dm, dn, dp, dq⟩ := bxD aa
                have p143 : 0 ≤ (aB : Int) := of_decide_eq_true rfA
                have q143 : aB < (ap.length : Int) := of_decide_eq_true rfA
                obtain ⟨ad143, e143, ch⟩ := Kd.at_string (Kd.R_reads' au.out).2.2 aB p143 q143
                cases e143
                replace p143 := eq_true p143
                replace q143 := eq_true q143
                go_wp2_with (first | ((with_reducible refine gtC 97 ?_); refine xCz 97 Tryz.func97 (graftwoodref03_Word.calls k4 (rdOf ByteArray.empty ap aB) true _ A68.out) fun nd => ?_))
                go_roundg k4
                case measure => have := HJ1.out; have := HK2.out; have := cE.out; have := HK4.out; omega
                case rel => exact ⟨(wrap64 (aB + 1)), (aq), (aj), (ai), rfG, H', ⟨by have := HJ1.out; have := HK2.out; have := cE.out; have := HK4.out; omega⟩, ⟨rT au.out⟩, ⟨bT ac.out⟩, ⟨bT aa.out⟩, ⟨eTx HB.out⟩⟩
               ·simp only [Option.some.injEq, Prod.mk.injEq] at H
                obtain ⟨rfl, rfl, rfl, rfl, rfl⟩ := H
                have eM := ah.out
                have eN := ae.out
                obtain ⟨dr, dt, du, dv, dw, dx, dy, dz⟩ := bxD aa
                have p143 : 0 ≤ (aB : Int) := of_decide_eq_true rfA
                have q143 : aB < (ap.length : Int) := of_decide_eq_true rfA
                obtain ⟨ad143, e143, ch⟩ := Kd.at_string (Kd.R_reads' au.out).2.2 aB p143 q143
                cases e143
                replace p143 := eq_true p143
                replace q143 := eq_true q143
                go_wp2_with (first | ((with_reducible refine gtC 97 ?_); refine xCz 97 Tryz.func97 (graftwoodref03_Word.calls k4 (rdOf ByteArray.empty ap aB) false _ A68.out) fun nd => ?_; (try (rw [drewN_self wr]; generalize hq_ : World.drewN wr _ = wr; have n0_ : Aside0 (Kd.R Kd.string 9 wr w.heap.size (fun _ => True) (.slice (some ad143) ap.length aP) ap) := ⟨by rw [← hq_]; exact (rT au.out)⟩; have n1_ : Aside0 (wr.heap[ag]? = some (.cells #[.string aq, .string aj, .string ai, .slice none 0 0] 98 (0, 0))) := ⟨by rw [← hq_]; exact (bT ac.out)⟩; have n2_ : Aside0 (wr.heap[ad]? = some (.cells #[.string (rdOf ByteArray.empty ab 0), .string (rdOf ByteArray.empty ab 1), .string (rdOf ByteArray.empty ab 2), .slice (some ad143) ap.length aP] 98 (0, 0))) := ⟨by rw [← hq_]; exact (bT aa.out)⟩; have n3_ : Aside0 (Below w.heap.size w wr) := ⟨by rw [← hq_]; exact (eTx HB.out)⟩; clear au ac aa HB hq_; have au := n0_; have ac := n1_; have aa := n2_; have HB := n3_; clear n0_ n1_ n2_ n3_)); obtain ⟨dA, dB, dC, dD, dE, dF, dG, dH⟩ := bxD ac))
                refine bodyPost_ret (results_ct rfl _ _ ag 98 #[.string (⟨#[]⟩ : ByteArray), .string (⟨#[]⟩ : ByteArray), .string (⟨#[]⟩ : ByteArray), .slice none 0 0] (0, 0) _ rfl kBk Tryz.underlying98 rfl rfK) rfl ?_
                exact ⟨_, by first | rfl | (simp [errW_none, errW_some] <;> rfl) | (simp only [← aR]; first | rfl | (simp [errW_none, errW_some] <;> rfl)) | (simp [*, errW_none, errW_some] <;> rfl), rfM, eTx HB.out⟩
              ·have cS := decide_eq_false c66
               clear c66
               simp only [Option.some.injEq, Prod.mk.injEq] at H
               obtain ⟨rfl, rfl, rfl, rfl, rfl⟩ := H
               have eO := ah.out
               have eP := ae.out
               obtain ⟨dI, dJ, dK, dL, dM, dN, dP, dQ⟩ := bxD aa
               obtain ⟨dR, dS, dU, dV, dW, dX, dY, dZ⟩ := bxD ac
               go_wp2
               refine bodyPost_ret (results_ct rfl _ _ ag 98 #[.string (rdOf ByteArray.empty ab 0), .string (rdOf ByteArray.empty ab 1), .string (rdOf ByteArray.empty ab 2), .slice bj ap.length aP] (0, 0) _ rfl kBk Tryz.underlying98 rfl rfK) rfl ?_
               exact ⟨_, by first | rfl | (simp [errW_none, errW_some] <;> rfl) | (simp only [← aR]; first | rfl | (simp [errW_none, errW_some] <;> rfl)) | (simp [*, errW_none, errW_some] <;> rfl), by (with_reducible repeat (first | apply Kd.R_alloc | apply Kd.R_drewN | apply Kd.R_drew)); exact Kd.R_mono (Kd.R_far (p := ⟨ag, 3, none⟩) (Kd.R_far (p := ⟨ag, 2, none⟩) (Kd.R_far (p := ⟨ag, 1, none⟩) (Kd.R_far (p := ⟨ag, 0, none⟩) (Kd.R_types au.out ac.out (by decide)) (fun _ hk => hk.2) (.string (rdOf ByteArray.empty ab 0))) (fun _ hk => hk.2) (.string (rdOf ByteArray.empty ab 1))) (fun _ hk => hk.2) (.string (rdOf ByteArray.empty ab 2))) (fun _ hk => hk.2) (.slice bj ap.length aP)) (fun _ hk => trivial), eTx HB.out⟩
       ·exact absurd H (by simp)

/-! ### graftwoodref03_May: function 46 -/
def graftwoodref03_May.f (k : Nat) (a0 : ByteArray) : Option (Bool) := (graftwoodref03_Split.f k a0).bind fun bt145 => (some bt145.2.2.2.2)
theorem graftwoodref03_May.mono : ∀ a0 k, LeO (graftwoodref03_May.f k a0) (graftwoodref03_May.f (k + 1) a0) := by
 intro a0 k
 unfold graftwoodref03_May.f
 repeat' first | (with_reducible first | apply graftwoodref03_Split.mono | apply LeO.refl | apply LeO.none | apply LeO.ite | refine LeO.bind ?_ (fun _ => ?_)) | apply graftwoodref03_Split.mono | exact LeO.none _ | refine LeO.ite ?_ ?_ | refine LeO.bind ?_ (fun _ => ?_)
theorem graftwoodref03_May.calls (k : Nat) (a0 : ByteArray) (r : Bool) (w : World) (h : graftwoodref03_May.f k a0 = some r) :
  Calls Tryz.prog 46 #[.string a0] w fun e w' => e = .returned (.bool r) ∧ Below w.heap.size w w' := by
 have hu98 := Tryz.underlying98
 have HB := am (Below.refl w.heap.size w)
 unfold graftwoodref03_May.f at h; have H := h; clear h
 replace H := bnd H; obtain ⟨⟨eb, ec, ed, ee, cV⟩, A2, H⟩ := H
 (try dsimp only at H)
 obtain rfl := smI H
 go_enter Tryz.func46, Tryz.ntmps46
 go_wp2_with (first | ((with_reducible refine gtC 70 ?_); refine xCl 7 Tryz.func70 (graftwoodref03_Split.calls k a0 eb ec ed ee cV _ A2.out) ?_; rintro e w3 ⟨fe, rfl, ho0, hb⟩; refine ⟨_, rfl, ?_⟩; have bv := am (Kd.R_lower ho0 (below_size (eTx HB.out))); replace HB := am (sTx HB.out hb)) | ((with_reducible refine gtD 3 ?_); refine xBx 3 98 #[.string (⟨#[]⟩ : ByteArray), .string (⟨#[]⟩ : ByteArray), .string (⟨#[]⟩ : ByteArray), .slice none 0 0] ?_; intro bl hg w4 hbox hb; replace bv := am (rB bv.out hb); have aE := am (hbox); have eQ := am ((gTx hg HB.out)); have eR := am ((gTx hg HB.out)); replace HB := am (sTx HB.out hb); clear hb hbox hg; obtain ⟨ef, eg, eh, ei, ej, ek, el, em⟩ := bxD aE; obtain ⟨Ao6, co6, eo6⟩ := Kd.R_slice bv.out; subst eo6))
 go_ret
 exact ⟨rfF, eTx HB.out⟩

/-! ### graftwoodref05_May: function 61 -/
def graftwoodref05_May.f (k : Nat) (a0_0 : ByteArray) (a0_1 : ByteArray) : Option (Bool) := (graftwoodref04_May.f k a0_0).bind fun bo => (if bo = true then ((graftwoodref03_May.f k a0_1).bind fun aQ => (some aQ)) else (some false))
theorem graftwoodref05_May.mono : ∀ a0 a1 k, LeO (graftwoodref05_May.f k a0 a1) (graftwoodref05_May.f (k + 1) a0 a1) := by
 intro a0 a1 k
 unfold graftwoodref05_May.f
 repeat' first | (with_reducible first | apply graftwoodref03_May.mono | apply graftwoodref04_May.mono | apply LeO.refl | apply LeO.none | apply LeO.ite | refine LeO.bind ?_ (fun _ => ?_)) | apply graftwoodref03_May.mono | apply graftwoodref04_May.mono | exact LeO.none _ | refine LeO.ite ?_ ?_ | refine LeO.bind ?_ (fun _ => ?_)
theorem graftwoodref05_May.calls (k : Nat) (a0_0 : ByteArray) (a0_1 : ByteArray) (r : Bool) (w : World) (h : graftwoodref05_May.f k a0_0 a0_1 = some r) :
  Calls Tryz.prog 61 #[.agg #[.string a0_0, .string a0_1]] w fun e w' => e = .returned (.bool r) ∧ Below w.heap.size w w' := by
 have hu55 := Tryz.underlying55
 have HB := am (Below.refl w.heap.size w)
 unfold graftwoodref05_May.f at h; have H := h; clear h
 replace H := bnd H; obtain ⟨bo, A2, H⟩ := H
 replace H := ifB H; rcases H with ⟨rfl, H⟩ | ⟨rfl, H⟩
 ·replace H := bnd H; obtain ⟨aQ, A4, H⟩ := H
  obtain rfl := smI H
  go_enter Tryz.func61, Tryz.ntmps61
  go_wp2_with (first | ((with_reducible refine gtD 1 ?_); refine xBx 1 55 #[.string a0_0, .string a0_1] ?_; intro aM hg w5 hbox hb; have ar := am (hbox); have cX := am ((gTx hg HB.out)); have cY := am ((gTx hg HB.out)); replace HB := am (sTx HB.out hb); clear hb hbox hg; obtain ⟨aH, aI, aJ, aK⟩ := bxB ar) | ((with_reducible refine gtC 17 ?_); refine xCb 5 Tryz.func17 (graftwoodref04_May.calls k a0_0 true _ A2.out) fun w7 hb => ?_; replace ar := am (bB ar.out hb); replace HB := am (sTx HB.out hb); obtain ⟨en, eo, ep, eq⟩ := bxB ar) | (go_at_call 46; (with_reducible refine (graftwoodref03_May.calls k a0_1 aQ _ A4.out).mono ?_); rintro e w9 ⟨rfl, hb⟩; replace ar := am (bB ar.out hb); replace HB := am (sTx HB.out hb)))
  go_ret
  exact ⟨rfF, eTx HB.out⟩
 ·obtain rfl := smI H
  go_enter Tryz.func61, Tryz.ntmps61
  go_wp2_with (first | ((with_reducible refine gtD 1 ?_); refine xBx 1 55 #[.string a0_0, .string a0_1] ?_; intro aM hg w10 hbox hb; have ar := am (hbox); have cX := am ((gTx hg HB.out)); have cY := am ((gTx hg HB.out)); replace HB := am (sTx HB.out hb); clear hb hbox hg; obtain ⟨d0, d1, d2, d3⟩ := bxB ar) | ((with_reducible refine gtC 17 ?_); refine xCb 5 Tryz.func17 (graftwoodref04_May.calls k a0_0 false _ A2.out) fun w12 hb => ?_; replace ar := am (bB ar.out hb); replace HB := am (sTx HB.out hb)))
  go_ret
  exact ⟨rfF, eTx HB.out⟩

end Go.Proofs.YtknmfmedklfepaaGreatDoor.P
