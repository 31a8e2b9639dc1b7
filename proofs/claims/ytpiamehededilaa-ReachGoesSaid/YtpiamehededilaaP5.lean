-- Written by this project's own program (wip/tools/hp.py), driving the kit's print; hand texts among it. Not trusted: Lean checks it.
-- half the indentation
import Derived.Test.YtpiamehededilaaP0
import Derived.Test.YtpiamehededilaaP2
import Derived.Test.YtpiamehededilaaP3
import Derived.Test.YtpiamehededilaaP4
namespace Go.Proofs.Ytpiamehededilaa.P
open Go.RowKit Go.Proofs.YtpiamehededilaaW.PrintWords Go.Proofs.YtpiamehededilaaW.PrintLast Go.Proofs.YtpiamehededilaaW.PrintMore
attribute [local go_sem] max2_int min2_int max_two min_two max_three min_three max_four min_four   -- for this text's walks alone
set_option linter.unusedVariables false
set_option linter.unusedSimpArgs false

/-! ### HAND edges_find -/
/-- How an edge lies to a pair. -/
def ordE (a0 a1 b0 b1 : Int) : Int := if a0 < b0 then -1 else if a0 > b0 then 1 else if a1 < b1 then -1 else if a1 > b1 then 1 else 0
def bsGo (l : List S36) (a b : Int) : Nat → Nat → Nat → Nat
 | 0, i, _ => i
 | n + 1, i, j => if i < j then (if ordE (rd_T36 l (((i + j) / 2 : Nat) : Int)).f0 (rd_T36 l (((i + j) / 2 : Nat) : Int)).f1 a b < 0 then bsGo l a b n ((i + j) / 2 + 1) j else bsGo l a b n i ((i + j) / 2)) else i
/-- Where a pair stands, or would. -/
def bsE (l : List S36) (a b : Int) : Nat := bsGo l a b l.length 0 l.length
def hasE (l : List S36) (a b : Int) : Bool := decide (bsE l a b < l.length) && (ordE (rd_T36 l (bsE l a b : Int)).f0 (rd_T36 l (bsE l a b : Int)).f1 a b == 0)
def edges_find.f (k : Nat) (l0 : List (S36)) (a1 : Int) (a2 : Int) : Option (List (S36) × Int × Bool × Int) :=
 (edges_Check.f k l0).bind fun e => if e = 0 ∧ ¬ a1 < -1 ∧ ¬ a2 < 0 then (if l0.length ≤ 1000000000 then some (l0, (bsE l0 a1 a2 : Int), hasE l0 a1 a2, 0) else none) else some ([], 0, false, 1)
theorem edges_find.mono : ∀ a0 a1 a2 k, LeO (edges_find.f k a0 a1 a2) (edges_find.f (k + 1) a0 a1 a2) := by
 intro a b c k
 exact LeO.bind (edges_Check.mono _ _) (fun _ => LeO.refl _)
theorem bsGo_ge (l : List S36) (a b : Int) (i j : Nat) (h : ¬ i < j) : ∀ n, bsGo l a b n i j = i
 | 0 => rfl
 | n + 1 => by rw [bsGo, if_neg h]
theorem cmp_eq (x y : Int) : cmp_Compare_int.f x y = some (if x < y then -1 else if x > y then 1 else 0) := by
 simp only [cmp_Compare_int.f, cmp_isNaN_int.f, Option.bind_some, bne_self_eq_false, Bool.false_eq_true, if_false]
 split <;> (try split) <;> rfl
theorem ord_eq (a0 a1 a2 b0 b1 b2 : Int) : edges_order.f 5 a0 a1 a2 b0 b1 b2 = some (ordE a0 a1 b0 b1) := by
 simp only [edges_order.f, cmp_eq, Option.bind_some]
 have h2 : ∀ x y : Int, (x = -1 ∨ x = 0 ∨ x = 1) → cmp_Or_int.f 5 [x, y] = some (if x = 0 then y else x) := by
  rintro x y (rfl | rfl | rfl)
  ·simp [cmp_Or_int.f, cmp_Or_int.l0, rd]
  ·have e1 : wrap64 1 = 1 := by unfold wrap64; omega
   have e2 : wrap64 2 = 2 := by unfold wrap64; omega
   by_cases hy : y = 0
   ·subst hy; simp [cmp_Or_int.f, cmp_Or_int.l0, rd, e1, e2]
   ·simp [cmp_Or_int.f, cmp_Or_int.l0, rd, e1, e2, hy]
  ·simp [cmp_Or_int.f, cmp_Or_int.l0, rd]
 rw [h2 _ _ (by split; exact .inl rfl; split; exact .inr (.inr rfl); exact .inr (.inl rfl))]
 unfold ordE
 by_cases h : a0 < b0
 ·simp [h]
 ·by_cases h' : a0 > b0
  ·simp [h, h']
  ·simp [h, h']
set_option maxRecDepth 100000 in
set_option maxHeartbeats 4000000 in
theorem bs_calls (A0 : Option Addr) (c0 : Nat) (l : List S36) (a1 a2 : Int) (w : World) (hr : Kd.C k36 w A0 l.length l) (hl : l.length ≤ 1000000000) :
  Calls Try.prog 58 #[.slice A0 l.length c0, .agg #[.int .i64 a1, .int .i64 a2, .int .i64 0], .func (.func 57) #[] #[]] w fun e w' => e = .returned (.tuple #[.int .i64 (bsE l a1 a2 : Int), .bool (hasE l a1 a2)]) ∧ Below w.heap.size w w' := by
 have HR0 := Aside0.mk hr
 have HL := Aside0.mk hl
 have huE := Try.underlying36
 have hl63 : l.length ≤ 9223372036854775807 := by omega
 clear hr hl
 go_enter Try.func58, Try.ntmps58
 go_wp2
 have BK := Aside0.mk (heap_alloc_new w (.cells #[.int .i64 a1, .int .i64 a2, .int .i64 0] 36))
 have HB := Aside0.mk ((Below.refl w.heap.size w).alloc (Nat.le_refl _) (.cells #[.int .i64 a1, .int .i64 a2, .int .i64 0] 36))
 change Aside0 (_ = some (Obj.cells #[.int .i64 a1, .int .i64 a2, .int .i64 0] 36 (0, 0))) at BK
 go_loopg [9, 10] l.length (fun kq v9 v10 wr => ∃ (i j : Nat), v9 = .int .i64 (i : Int) ∧ v10 = .int .i64 (j : Int) ∧ i ≤ l.length ∧ j ≤ l.length ∧ Aside0 (j ≤ i + kq) ∧ Aside0 (bsGo l a1 a2 kq i j = bsE l a1 a2) ∧ Aside0 (wr.heap[w.heap.size]? = some (.cells #[.int .i64 a1, .int .i64 a2, .int .i64 0] 36 (0, 0))) ∧ Aside0 (Below w.heap.size w wr))
 case atStart => exact ⟨0, l.length, rfl, rfl, by omega, by omega, ⟨by omega⟩, ⟨rfl⟩, BK, HB⟩
 case round =>
  clear BK HB
  obtain ⟨i, j, rfl, rfl, hi, hj, HK, HE, BK, HB⟩ := hrel
  by_cases hij : i < j
  case pos =>
   obtain ⟨h, hh⟩ : ∃ h, h = (i + j) / 2 := ⟨_, rfl⟩
   have hhl : h < l.length := by omega
   have hb1 := HL.out
   have hw : wrap64 (IntKind.u64.wrap (wrap64 ((i : Int) + (j : Int))) / 2) = (h : Int) := by
    have e1 : wrap64 ((i : Int) + (j : Int)) = (i : Int) + (j : Int) := by unfold wrap64; omega
    have e2 : IntKind.u64.wrap ((i : Int) + (j : Int)) = (i : Int) + (j : Int) := by rw [IntKind.wrap_u64]; omega
    rw [e1, e2, hh]
    unfold wrap64
    omega
   have hh0 : (0 : Int) ≤ (h : Int) := by omega
   have hhI : (h : Int) < (l.length : Int) := by omega
   have HIL : Aside0 (h < l.length) := ⟨hhl⟩
   have HH := Aside0.mk hh
   have HIJ := Aside0.mk hij
   have Hi := Aside0.mk hi
   have Hj := Aside0.mk hj
   have HHJ : Aside0 (i ≤ h ∧ h < j) := ⟨by omega⟩
   clear hh hhl hb1 hi hj
   have hijI : (i : Int) < (j : Int) := by have := HIJ.out; omega
   clear hij
   go_wp2
   rw [hw]
   clear hw
   obtain ⟨ad, ead, hx0, hx1, hx2⟩ := at_T36 (Kd.C_below HR0.out HB.out) (h : Int) (by omega) (by have := HIL.out; omega)
   cases ead
   obtain ⟨⟨x0, x1, x2⟩, hxe⟩ : ∃ x, rd_T36 l (h : Int) = x := ⟨_, rfl⟩
   rw [hxe, Int.toNat_natCast] at hx0 hx1 hx2
   have HXE := Aside0.mk hxe
   simp only at hx0 hx1 hx2
   clear hxe
   refine start_ (n := 8) (S := fun w' => w'.cell? (ad.add (h * 3)) = some (.int .i64 x0) ∧ w'.cell? ⟨(ad.add (h * 3)).block, (ad.add (h * 3)).off + 1, none⟩ = some (.int .i64 x1) ∧ w'.cell? ⟨(ad.add (h * 3)).block, (ad.add (h * 3)).off + 2, none⟩ = some (.int .i64 x2) ∧ w'.cell? ⟨w.heap.size, 0, none⟩ = some (.int .i64 a1) ∧ w'.cell? ⟨w.heap.size, 1, none⟩ = some (.int .i64 a2) ∧ w'.cell? ⟨w.heap.size, 2, none⟩ = some (.int .i64 0)) (ds := []) #[false, false, false, false, false, false, false, false] (by kernel_rfl) rfl rfl ⟨hx0, hx1, hx2, (blk_cell BK.out 0).trans rfl, (blk_cell BK.out 1).trans rfl, (blk_cell BK.out 2).trans rfl⟩ (fun hHeld => ?_)
   have n0_ := Aside0.mk (blk_drew BK.out)
   have n1_ := Aside0.mk (below_drew1 HB.out)
   clear BK HB
   have BK := n0_
   have HB := n1_
   clear n0_ n1_ hx0 hx1 hx2
   generalize wr.drew = wd at BK HB hHeld ⊢
   refine pure_ (i := 0) (N := some 24) (v := ?_) (a' := ?_) #[true, false, false, false, false, false, false, false] rfl rfl (by kernel_rfl) (fun _ _ _ h => h) (Or.inl ⟨by rfl, ?_⟩) ?_ ?_
   rotate_left
   ·intro w'
    go_simp
    with_reducible rfl
   rotate_left
   ·simp only [Act.put, List.setIfInBounds_toArray, List.set_cons_zero, List.set_cons_succ, i64_w, i32_w]
    rfl
   refine pure_ (i := 1) (N := some 25) (v := ?_) (a' := ?_) #[true, true, false, false, false, false, false, false] rfl rfl (by kernel_rfl) (fun _ _ _ h => h) (Or.inl ⟨by rfl, ?_⟩) ?_ ?_
   rotate_left
   ·intro w'
    go_simp
    with_reducible rfl
   rotate_left
   ·simp only [Act.put, List.setIfInBounds_toArray, List.set_cons_zero, List.set_cons_succ, i64_w, i32_w]
    rfl
   refine pure_ (i := 2) (N := some 26) (v := ?_) (a' := ?_) #[true, true, true, false, false, false, false, false] rfl rfl (by kernel_rfl) (fun _ _ _ h => h) (Or.inl ⟨by rfl, ?_⟩) ?_ ?_
   rotate_left
   ·intro w'
    go_simp
    with_reducible rfl
   rotate_left
   ·simp only [Act.put, List.setIfInBounds_toArray, List.set_cons_zero, List.set_cons_succ, i64_w, i32_w]
    rfl
   refine pure_ (i := 3) (N := some 27) (v := ?_) (a' := ?_) #[true, true, true, true, false, false, false, false] rfl rfl (by kernel_rfl) (fun _ _ _ h => h) (Or.inl ⟨by rfl, ?_⟩) ?_ ?_
   rotate_left
   ·intro w'
    go_simp
    with_reducible rfl
   rotate_left
   ·simp only [Act.put, List.setIfInBounds_toArray, List.set_cons_zero, List.set_cons_succ, i64_w, i32_w]
    rfl
   refine take_ (i := 4) (N := some 28) (v := ?_) (a' := ?_) #[true, true, true, true, true, false, false, false] rfl rfl (by kernel_rfl) (fun _ _ _ h => h) (Or.inl ⟨by rfl, ?_⟩) hHeld ?_ ?_
   rotate_left
   ·rintro w' ⟨s0, s1, s2, s3, s4, s5⟩
    go_simp
    with_reducible rfl
   rotate_left
   ·simp only [Act.put, List.setIfInBounds_toArray, List.set_cons_zero, List.set_cons_succ, i64_w, i32_w]
    rfl
   refine take_ (i := 5) (N := some 29) (v := ?_) (a' := ?_) #[true, true, true, true, true, true, false, false] rfl rfl (by kernel_rfl) (fun _ _ _ h => h) (Or.inl ⟨by rfl, ?_⟩) hHeld ?_ ?_
   rotate_left
   ·rintro w' ⟨s0, s1, s2, s3, s4, s5⟩
    go_simp
    with_reducible rfl
   rotate_left
   ·simp only [Act.put, List.setIfInBounds_toArray, List.set_cons_zero, List.set_cons_succ, i64_w, i32_w]
    rfl
   refine one_ (i := 6) (N := some 30) #[true, true, true, true, true, true, true, false] rfl rfl (by kernel_rfl) (by decide) (fun K hK => ?_)
   refine call_ 57 #[.agg #[.int .i64 x0, .int .i64 x1, .int .i64 x2], .agg #[.int .i64 a1, .int .i64 a2, .int .i64 0]] (by rfl) rfl ?_ ?_
   ·first | (go_simp; done) | (go_simp; rfl)
   refine (edges_order.calls 5 x0 x1 x2 a1 a2 0 _ _ (ord_eq _ _ _ _ _ _)).mono ?_
   rintro e w5 ⟨rfl, hb⟩
   refine ⟨_, rfl, ?_⟩
   have n0_ := Aside0.mk (blk_below BK.out hb)
   have n1_ := Aside0.mk (below_step HB.out hb)
   clear BK HB hb
   have BK := n0_
   have HB := n1_
   clear n0_ n1_
   obtain ⟨ad', ead', hx0, hx1, hx2⟩ := at_T36 (Kd.C_below HR0.out HB.out) (h : Int) (by omega) (by have := HIL.out; omega)
   cases ead'
   rw [Int.toNat_natCast, HXE.out] at hx0 hx1 hx2
   refine hK.out _ _ ⟨hx0, hx1, hx2, (blk_cell BK.out 0).trans rfl, (blk_cell BK.out 1).trans rfl, (blk_cell BK.out 2).trans rfl⟩ (fun hHeld => ?_)
   clear hK K hx0 hx1 hx2
   refine norm_ (a' := ?_) ?_ ?_
   rotate_left
   ·show Act.put _ (some 30) _ = _
    simp only [Act.put, List.setIfInBounds_toArray, List.set_cons_zero, List.set_cons_succ, i64_w, i32_w]
    rfl
   refine pure_ (i := 7) (N := some 31) (v := ?_) (a' := ?_) #[true, true, true, true, true, true, true, true] rfl rfl (by kernel_rfl) (fun _ _ _ h => h) (Or.inl ⟨by rfl, ?_⟩) ?_ ?_
   rotate_left
   ·intro w'
    go_simp
    with_reducible rfl
   rotate_left
   ·simp only [Act.put, List.setIfInBounds_toArray, List.set_cons_zero, List.set_cons_succ, i64_w, i32_w]
    rfl
   refine done_ (by kernel_rfl) ?_
   have HD : Aside0 ((rd_T36 l (h : Int)).f0 = x0 ∧ (rd_T36 l (h : Int)).f1 = x1) := ⟨by rw [HXE.out]; exact ⟨rfl, rfl⟩⟩
   by_cases hc : ordE x0 x1 a1 a2 < 0
   ·have HCc := Aside0.mk hc
    go_wp2
    go_roundg (gk - 1)
    case measure => have := HK.out; have := HIJ.out; omega
    case rel =>
     refine ⟨h + 1, j, by go_num, rfl, by have := HIL.out; omega, Hj.out, ⟨by have := HK.out; have := HHJ.out; omega⟩, ⟨?_⟩, BK, HB⟩
     have he := HE.out
     obtain ⟨n, hn⟩ : ∃ n, gk = n + 1 := ⟨gk - 1, by have := HK.out; have := HIJ.out; omega⟩
     rw [hn, bsGo, if_pos HIJ.out, ← HH.out, if_pos (by rw [HD.out.1, HD.out.2]; exact HCc.out)] at he
     rw [hn]; exact he
   ·have HCc := Aside0.mk hc
    go_wp2
    go_roundg (gk - 1)
    case measure => have := HK.out; have := HIJ.out; omega
    case rel =>
     refine ⟨i, h, rfl, rfl, Hi.out, by have := HIL.out; omega, ⟨by have := HK.out; have := HHJ.out; omega⟩, ⟨?_⟩, BK, HB⟩
     have he := HE.out
     obtain ⟨n, hn⟩ : ∃ n, gk = n + 1 := ⟨gk - 1, by have := HK.out; have := HIJ.out; omega⟩
     rw [hn, bsGo, if_pos HIJ.out, ← HH.out, if_neg (by rw [HD.out.1, HD.out.2]; exact Int.not_lt.2 HCc.out)] at he
     rw [hn]; exact he
  case neg =>
   have hbs : bsE l a1 a2 = i := by rw [← HE.out, bsGo_ge l a1 a2 i j hij]
   have HBS := Aside0.mk hbs
   have hijI : ¬ ((i : Int) < (j : Int)) := by omega
   have Hi := Aside0.mk hi
   clear hbs hij hi hj HK HE
   by_cases hin : i < l.length
   case pos =>
    have HIL := Aside0.mk hin
    have hinI : (i : Int) < (l.length : Int) := by omega
    have hi0 : (0 : Int) ≤ (i : Int) := by omega
    clear hin
    go_wp2
    obtain ⟨ad, ead, hx0, hx1, hx2⟩ := at_T36 (Kd.C_below HR0.out HB.out) (i : Int) (by omega) (by have := HIL.out; omega)
    cases ead
    obtain ⟨⟨x0, x1, x2⟩, hxe⟩ : ∃ x, rd_T36 l (i : Int) = x := ⟨_, rfl⟩
    rw [hxe, Int.toNat_natCast] at hx0 hx1 hx2
    have HXE := Aside0.mk hxe
    simp only at hx0 hx1 hx2
    clear hxe
    refine start_ (n := 16) (S := fun w' => w'.cell? (ad.add (i * 3)) = some (.int .i64 x0) ∧ w'.cell? ⟨(ad.add (i * 3)).block, (ad.add (i * 3)).off + 1, none⟩ = some (.int .i64 x1) ∧ w'.cell? ⟨(ad.add (i * 3)).block, (ad.add (i * 3)).off + 2, none⟩ = some (.int .i64 x2) ∧ w'.cell? ⟨w.heap.size, 0, none⟩ = some (.int .i64 a1) ∧ w'.cell? ⟨w.heap.size, 1, none⟩ = some (.int .i64 a2) ∧ w'.cell? ⟨w.heap.size, 2, none⟩ = some (.int .i64 0)) (ds := []) #[false, false, false, false, false, false, false, false, false, false, false, false, false, false, false, false] (by kernel_rfl) rfl rfl ⟨hx0, hx1, hx2, (blk_cell BK.out 0).trans rfl, (blk_cell BK.out 1).trans rfl, (blk_cell BK.out 2).trans rfl⟩ (fun hHeld => ?_)
    have n0_ := Aside0.mk (blk_drew BK.out)
    have n1_ := Aside0.mk (below_drew1 HB.out)
    clear BK HB
    have BK := n0_
    have HB := n1_
    clear n0_ n1_ hx0 hx1 hx2
    generalize wr.drew = wd at BK HB hHeld ⊢
    refine pure_ (i := 0) (N := some 35) (v := ?_) (a' := ?_) #[true, false, false, false, false, false, false, false, false, false, false, false, false, false, false, false] rfl rfl (by kernel_rfl) (fun _ _ _ h => h) (Or.inl ⟨by rfl, ?_⟩) ?_ ?_
    rotate_left
    ·intro w'
     go_simp
     with_reducible rfl
    rotate_left
    ·simp only [Act.put, List.setIfInBounds_toArray, List.set_cons_zero, List.set_cons_succ, i64_w, i32_w]
     rfl
    refine pure_ (i := 1) (N := some 36) (v := ?_) (a' := ?_) #[true, true, false, false, false, false, false, false, false, false, false, false, false, false, false, false] rfl rfl (by kernel_rfl) (fun _ _ _ h => h) (Or.inl ⟨by rfl, ?_⟩) ?_ ?_
    rotate_left
    ·intro w'
     go_simp
     with_reducible rfl
    rotate_left
    ·simp only [Act.put, List.setIfInBounds_toArray, List.set_cons_zero, List.set_cons_succ, i64_w, i32_w]
     rfl
    refine pure_ (i := 2) (N := some 37) (v := ?_) (a' := ?_) #[true, true, true, false, false, false, false, false, false, false, false, false, false, false, false, false] rfl rfl (by kernel_rfl) (fun _ _ _ h => h) (Or.inl ⟨by rfl, ?_⟩) ?_ ?_
    rotate_left
    ·intro w'
     go_simp
     with_reducible rfl
    rotate_left
    ·simp only [Act.put, List.setIfInBounds_toArray, List.set_cons_zero, List.set_cons_succ, i64_w, i32_w]
     rfl
    refine pure_ (i := 3) (N := some 38) (v := ?_) (a' := ?_) #[true, true, true, true, false, false, false, false, false, false, false, false, false, false, false, false] rfl rfl (by kernel_rfl) (fun _ _ _ h => h) (Or.inl ⟨by rfl, ?_⟩) ?_ ?_
    rotate_left
    ·intro w'
     go_simp
     with_reducible rfl
    rotate_left
    ·simp only [Act.put, List.setIfInBounds_toArray, List.set_cons_zero, List.set_cons_succ, i64_w, i32_w]
     rfl
    refine pure_ (i := 4) (N := some 39) (v := ?_) (a' := ?_) #[true, true, true, true, true, false, false, false, false, false, false, false, false, false, false, false] rfl rfl (by kernel_rfl) (fun _ _ _ h => h) (Or.inl ⟨by rfl, ?_⟩) ?_ ?_
    rotate_left
    ·intro w'
     go_simp
     with_reducible rfl
    rotate_left
    ·simp only [Act.put, List.setIfInBounds_toArray, List.set_cons_zero, List.set_cons_succ, i64_w, i32_w]
     rfl
    refine pure_ (i := 5) (N := some 40) (v := ?_) (a' := ?_) #[true, true, true, true, true, true, false, false, false, false, false, false, false, false, false, false] rfl rfl (by kernel_rfl) (fun _ _ _ h => h) (Or.inl ⟨by rfl, ?_⟩) ?_ ?_
    rotate_left
    ·intro w'
     go_simp
     with_reducible rfl
    rotate_left
    ·simp only [Act.put, List.setIfInBounds_toArray, List.set_cons_zero, List.set_cons_succ, i64_w, i32_w]
     rfl
    refine pure_ (i := 6) (N := some 41) (v := ?_) (a' := ?_) #[true, true, true, true, true, true, true, false, false, false, false, false, false, false, false, false] rfl rfl (by kernel_rfl) (fun _ _ _ h => h) (Or.inl ⟨by rfl, ?_⟩) ?_ ?_
    rotate_left
    ·intro w'
     go_simp
     with_reducible rfl
    rotate_left
    ·simp only [Act.put, List.setIfInBounds_toArray, List.set_cons_zero, List.set_cons_succ, i64_w, i32_w]
     rfl
    refine pure_ (i := 7) (N := some 42) (v := ?_) (a' := ?_) #[true, true, true, true, true, true, true, true, false, false, false, false, false, false, false, false] rfl rfl (by kernel_rfl) (fun _ _ _ h => h) (Or.inl ⟨by rfl, ?_⟩) ?_ ?_
    rotate_left
    ·intro w'
     go_simp
     with_reducible rfl
    rotate_left
    ·simp only [Act.put, List.setIfInBounds_toArray, List.set_cons_zero, List.set_cons_succ, i64_w, i32_w]
     rfl
    refine pure_ (i := 8) (N := some 43) (v := ?_) (a' := ?_) #[true, true, true, true, true, true, true, true, true, false, false, false, false, false, false, false] rfl rfl (by kernel_rfl) (fun _ _ _ h => h) (Or.inl ⟨by rfl, ?_⟩) ?_ ?_
    rotate_left
    ·intro w'
     go_simp
     with_reducible rfl
    rotate_left
    ·simp only [Act.put, List.setIfInBounds_toArray, List.set_cons_zero, List.set_cons_succ, i64_w, i32_w]
     rfl
    refine take_ (i := 9) (N := some 44) (v := ?_) (a' := ?_) #[true, true, true, true, true, true, true, true, true, true, false, false, false, false, false, false] rfl rfl (by kernel_rfl) (fun _ _ _ h => h) (Or.inl ⟨by rfl, ?_⟩) hHeld ?_ ?_
    rotate_left
    ·rintro w' ⟨s0, s1, s2, s3, s4, s5⟩
     go_simp
     with_reducible rfl
    rotate_left
    ·simp only [Act.put, List.setIfInBounds_toArray, List.set_cons_zero, List.set_cons_succ, i64_w, i32_w]
     rfl
    refine take_ (i := 10) (N := some 45) (v := ?_) (a' := ?_) #[true, true, true, true, true, true, true, true, true, true, true, false, false, false, false, false] rfl rfl (by kernel_rfl) (fun _ _ _ h => h) (Or.inl ⟨by rfl, ?_⟩) hHeld ?_ ?_
    rotate_left
    ·rintro w' ⟨s0, s1, s2, s3, s4, s5⟩
     go_simp
     with_reducible rfl
    rotate_left
    ·simp only [Act.put, List.setIfInBounds_toArray, List.set_cons_zero, List.set_cons_succ, i64_w, i32_w]
     rfl
    refine one_ (i := 11) (N := some 46) #[true, true, true, true, true, true, true, true, true, true, true, true, false, false, false, false] rfl rfl (by kernel_rfl) (by decide) (fun K hK => ?_)
    refine call_ 57 #[.agg #[.int .i64 x0, .int .i64 x1, .int .i64 x2], .agg #[.int .i64 a1, .int .i64 a2, .int .i64 0]] (by rfl) rfl ?_ ?_
    ·first | (go_simp; done) | (go_simp; rfl)
    refine (edges_order.calls 5 x0 x1 x2 a1 a2 0 _ _ (ord_eq _ _ _ _ _ _)).mono ?_
    rintro e w5 ⟨rfl, hb⟩
    refine ⟨_, rfl, ?_⟩
    have n0_ := Aside0.mk (blk_below BK.out hb)
    have n1_ := Aside0.mk (below_step HB.out hb)
    clear BK HB hb
    have BK := n0_
    have HB := n1_
    clear n0_ n1_
    obtain ⟨ad', ead', hx0, hx1, hx2⟩ := at_T36 (Kd.C_below HR0.out HB.out) (i : Int) (by omega) (by have := HIL.out; omega)
    cases ead'
    rw [Int.toNat_natCast, HXE.out] at hx0 hx1 hx2
    refine hK.out _ _ ⟨hx0, hx1, hx2, (blk_cell BK.out 0).trans rfl, (blk_cell BK.out 1).trans rfl, (blk_cell BK.out 2).trans rfl⟩ (fun hHeld => ?_)
    clear hK K hx0 hx1 hx2
    refine norm_ (a' := ?_) ?_ ?_
    rotate_left
    ·show Act.put _ (some 46) _ = _
     simp only [Act.put, List.setIfInBounds_toArray, List.set_cons_zero, List.set_cons_succ, i64_w, i32_w]
     rfl
    refine pure_ (i := 12) (N := some 47) (v := ?_) (a' := ?_) #[true, true, true, true, true, true, true, true, true, true, true, true, true, false, false, false] rfl rfl (by kernel_rfl) (fun _ _ _ h => h) (Or.inl ⟨by rfl, ?_⟩) ?_ ?_
    rotate_left
    ·intro w'
     go_simp
     with_reducible rfl
    rotate_left
    ·simp only [Act.put, List.setIfInBounds_toArray, List.set_cons_zero, List.set_cons_succ, i64_w, i32_w]
     rfl
    refine pure_ (i := 13) (N := some 48) (v := ?_) (a' := ?_) #[true, true, true, true, true, true, true, true, true, true, true, true, true, true, false, false] rfl rfl (by kernel_rfl) (fun _ _ _ h => h) (Or.inl ⟨by rfl, ?_⟩) ?_ ?_
    rotate_left
    ·intro w'
     go_simp
     with_reducible rfl
    rotate_left
    ·simp only [Act.put, List.setIfInBounds_toArray, List.set_cons_zero, List.set_cons_succ, i64_w, i32_w]
     rfl
    refine pure_ (i := 14) (N := some 6) (v := ?_) (a' := ?_) #[true, true, true, true, true, true, true, true, true, true, true, true, true, true, true, false] rfl rfl (by kernel_rfl) (fun _ _ _ h => h) (Or.inl ⟨by rfl, ?_⟩) ?_ ?_
    rotate_left
    ·intro w'
     go_simp
     with_reducible rfl
    rotate_left
    ·simp only [Act.put, List.setIfInBounds_toArray, List.set_cons_zero, List.set_cons_succ, i64_w, i32_w]
     rfl
    refine pure_ (i := 15) (N := some 7) (v := ?_) (a' := ?_) #[true, true, true, true, true, true, true, true, true, true, true, true, true, true, true, true] rfl rfl (by kernel_rfl) (fun _ _ _ h => h) (Or.inl ⟨by rfl, ?_⟩) ?_ ?_
    rotate_left
    ·intro w'
     go_simp
     with_reducible rfl
    rotate_left
    ·simp only [Act.put, List.setIfInBounds_toArray, List.set_cons_zero, List.set_cons_succ, i64_w, i32_w]
     rfl
    refine done_ (by kernel_rfl) ?_
    go_wp2
    go_ret2
    have hhas : hasE l a1 a2 = (ordE x0 x1 a1 a2 == 0) := by
     unfold hasE
     rw [HBS.out, HXE.out, decide_eq_true HIL.out, Bool.true_and]
    rw [HBS.out, hhas]
    exact ⟨rfl, HB.out⟩
   case neg =>
    have HIL := Aside0.mk hin
    have hinI : ¬ ((i : Int) < (l.length : Int)) := by omega
    have hdN : decide (i < l.length) = false := by simpa using hin
    clear hin
    go_wp2
    refine start_ (n := 16) (S := fun w' => True) (ds := []) #[false, false, false, false, false, false, false, false, false, false, false, false, false, false, false, false] (by kernel_rfl) rfl rfl trivial (fun hHeld => ?_)
    have n0_ := Aside0.mk (blk_drew BK.out)
    have n1_ := Aside0.mk (below_drew1 HB.out)
    clear BK HB
    have BK := n0_
    have HB := n1_
    clear n0_ n1_
    generalize wr.drew = wd at BK HB hHeld ⊢
    refine pure_ (i := 0) (N := some 35) (v := ?_) (a' := ?_) #[true, false, false, false, false, false, false, false, false, false, false, false, false, false, false, false] rfl rfl (by kernel_rfl) (fun _ _ _ h => h) (Or.inl ⟨by rfl, ?_⟩) ?_ ?_
    rotate_left
    ·intro w'
     go_simp
     with_reducible rfl
    rotate_left
    ·simp only [Act.put, List.setIfInBounds_toArray, List.set_cons_zero, List.set_cons_succ, i64_w, i32_w]
     rfl
    refine pure_ (i := 1) (N := some 36) (v := ?_) (a' := ?_) #[true, true, false, false, false, false, false, false, false, false, false, false, false, false, false, false] rfl rfl (by kernel_rfl) (fun _ _ _ h => h) (Or.inl ⟨by rfl, ?_⟩) ?_ ?_
    rotate_left
    ·intro w'
     go_simp
     with_reducible rfl
    rotate_left
    ·simp only [Act.put, List.setIfInBounds_toArray, List.set_cons_zero, List.set_cons_succ, i64_w, i32_w]
     rfl
    refine pure_ (i := 2) (N := some 37) (v := ?_) (a' := ?_) #[true, true, true, false, false, false, false, false, false, false, false, false, false, false, false, false] rfl rfl (by kernel_rfl) (fun _ _ _ h => h) (Or.inl ⟨by rfl, ?_⟩) ?_ ?_
    rotate_left
    ·intro w'
     go_simp
     with_reducible rfl
    rotate_left
    ·simp only [Act.put, List.setIfInBounds_toArray, List.set_cons_zero, List.set_cons_succ, i64_w, i32_w]
     rfl
    refine pure_ (i := 3) (N := some 38) (v := ?_) (a' := ?_) #[true, true, true, true, false, false, false, false, false, false, false, false, false, false, false, false] rfl rfl (by kernel_rfl) (fun _ _ _ h => h) (Or.inl ⟨by rfl, ?_⟩) ?_ ?_
    rotate_left
    ·intro w'
     go_simp
     with_reducible rfl
    rotate_left
    ·simp only [Act.put, List.setIfInBounds_toArray, List.set_cons_zero, List.set_cons_succ, i64_w, i32_w]
     rfl
    refine pure_ (i := 4) (N := some 39) (v := ?_) (a' := ?_) #[true, true, true, true, true, false, false, false, false, false, false, false, false, false, false, false] rfl rfl (by kernel_rfl) (fun _ _ _ h => h) (Or.inl ⟨by rfl, ?_⟩) ?_ ?_
    rotate_left
    ·intro w'
     go_simp
     with_reducible rfl
    rotate_left
    ·simp only [Act.put, List.setIfInBounds_toArray, List.set_cons_zero, List.set_cons_succ, i64_w, i32_w]
     rfl
    refine pure_ (i := 5) (N := some 40) (v := undef) (a' := ?_) #[true, true, true, true, true, true, false, false, false, false, false, false, false, false, false, false] rfl rfl (by kernel_rfl) (fun _ _ _ h => h) (Or.inr ⟨by rfl, rfl⟩) ?_ ?_
    rotate_left
    ·simp only [Act.put, List.setIfInBounds_toArray, List.set_cons_zero, List.set_cons_succ, i64_w, i32_w]
     rfl
    refine pure_ (i := 6) (N := some 41) (v := undef) (a' := ?_) #[true, true, true, true, true, true, true, false, false, false, false, false, false, false, false, false] rfl rfl (by kernel_rfl) (fun _ _ _ h => h) (Or.inr ⟨by rfl, rfl⟩) ?_ ?_
    rotate_left
    ·simp only [Act.put, List.setIfInBounds_toArray, List.set_cons_zero, List.set_cons_succ, i64_w, i32_w]
     rfl
    refine pure_ (i := 7) (N := some 42) (v := undef) (a' := ?_) #[true, true, true, true, true, true, true, true, false, false, false, false, false, false, false, false] rfl rfl (by kernel_rfl) (fun _ _ _ h => h) (Or.inr ⟨by rfl, rfl⟩) ?_ ?_
    rotate_left
    ·simp only [Act.put, List.setIfInBounds_toArray, List.set_cons_zero, List.set_cons_succ, i64_w, i32_w]
     rfl
    refine pure_ (i := 8) (N := some 43) (v := undef) (a' := ?_) #[true, true, true, true, true, true, true, true, true, false, false, false, false, false, false, false] rfl rfl (by kernel_rfl) (fun _ _ _ h => h) (Or.inr ⟨by rfl, rfl⟩) ?_ ?_
    rotate_left
    ·simp only [Act.put, List.setIfInBounds_toArray, List.set_cons_zero, List.set_cons_succ, i64_w, i32_w]
     rfl
    refine pure_ (i := 9) (N := some 44) (v := undef) (a' := ?_) #[true, true, true, true, true, true, true, true, true, true, false, false, false, false, false, false] rfl rfl (by kernel_rfl) (fun _ _ _ h => h) (Or.inr ⟨by rfl, rfl⟩) ?_ ?_
    rotate_left
    ·simp only [Act.put, List.setIfInBounds_toArray, List.set_cons_zero, List.set_cons_succ, i64_w, i32_w]
     rfl
    refine pure_ (i := 10) (N := some 45) (v := undef) (a' := ?_) #[true, true, true, true, true, true, true, true, true, true, true, false, false, false, false, false] rfl rfl (by kernel_rfl) (fun _ _ _ h => h) (Or.inr ⟨by rfl, rfl⟩) ?_ ?_
    rotate_left
    ·simp only [Act.put, List.setIfInBounds_toArray, List.set_cons_zero, List.set_cons_succ, i64_w, i32_w]
     rfl
    refine pure_ (i := 11) (N := some 46) (v := undef) (a' := ?_) #[true, true, true, true, true, true, true, true, true, true, true, true, false, false, false, false] rfl rfl (by kernel_rfl) (fun _ _ _ h => h) (Or.inr ⟨by rfl, rfl⟩) ?_ ?_
    rotate_left
    ·simp only [Act.put, List.setIfInBounds_toArray, List.set_cons_zero, List.set_cons_succ, i64_w, i32_w]
     rfl
    refine pure_ (i := 12) (N := some 47) (v := undef) (a' := ?_) #[true, true, true, true, true, true, true, true, true, true, true, true, true, false, false, false] rfl rfl (by kernel_rfl) (fun _ _ _ h => h) (Or.inr ⟨by rfl, rfl⟩) ?_ ?_
    rotate_left
    ·simp only [Act.put, List.setIfInBounds_toArray, List.set_cons_zero, List.set_cons_succ, i64_w, i32_w]
     rfl
    refine pure_ (i := 13) (N := some 48) (v := ?_) (a' := ?_) #[true, true, true, true, true, true, true, true, true, true, true, true, true, true, false, false] rfl rfl (by kernel_rfl) (fun _ _ _ h => h) (Or.inl ⟨by rfl, ?_⟩) ?_ ?_
    rotate_left
    ·intro w'
     go_simp
     with_reducible rfl
    rotate_left
    ·simp only [Act.put, List.setIfInBounds_toArray, List.set_cons_zero, List.set_cons_succ, i64_w, i32_w]
     rfl
    refine pure_ (i := 14) (N := some 6) (v := ?_) (a' := ?_) #[true, true, true, true, true, true, true, true, true, true, true, true, true, true, true, false] rfl rfl (by kernel_rfl) (fun _ _ _ h => h) (Or.inl ⟨by rfl, ?_⟩) ?_ ?_
    rotate_left
    ·intro w'
     go_simp
     with_reducible rfl
    rotate_left
    ·simp only [Act.put, List.setIfInBounds_toArray, List.set_cons_zero, List.set_cons_succ, i64_w, i32_w]
     rfl
    refine pure_ (i := 15) (N := some 7) (v := ?_) (a' := ?_) #[true, true, true, true, true, true, true, true, true, true, true, true, true, true, true, true] rfl rfl (by kernel_rfl) (fun _ _ _ h => h) (Or.inl ⟨by rfl, ?_⟩) ?_ ?_
    rotate_left
    ·intro w'
     go_simp
     with_reducible rfl
    rotate_left
    ·simp only [Act.put, List.setIfInBounds_toArray, List.set_cons_zero, List.set_cons_succ, i64_w, i32_w]
     rfl
    refine done_ (by kernel_rfl) ?_
    go_wp2
    go_ret2
    have hhas : hasE l a1 a2 = false := by
     unfold hasE
     rw [HBS.out, decide_eq_false HIL.out, Bool.false_and]
    rw [HBS.out, hhas]
    exact ⟨rfl, HB.out⟩
set_option maxRecDepth 100000 in
set_option maxHeartbeats 4000000 in
theorem edges_find.calls (k : Nat) (A0 : Option Addr) (c0 : Nat) (l0 : List (S36)) (a1 : Int) (a2 : Int) (r1 : List (S36)) (r2 : Int) (r3 : Bool) (r4 : Int) (w : World) (hr0 : Kd.C k36 w A0 l0.length l0) (hc0 : l0.length ≤ c0) (h : edges_find.f k l0 a1 a2 = some (r1, r2, r3, r4)) :
  Calls Try.prog 50 #[.slice A0 l0.length c0, .int .i64 a1, .int .i64 a2] w fun e w' => ∃ v0_ : Value, e = .returned (.tuple #[v0_, .int .i64 r2, .bool r3, .int .i64 r4]) ∧ Kd.R k36 36 w' w.heap.size (fun _ => True) v0_ r1 ∧ Below w.heap.size w w' := by
 unfold edges_find.f at h
 obtain ⟨e, he, h⟩ := Option.bind_eq_some_iff.mp h
 have HR0 := Aside0.mk hr0
 have HC0 := Aside0.mk hc0
 have HE := Aside0.mk he
 have HB := Aside0.mk (Below.refl w.heap.size w)
 have huE := Try.underlying36
 clear hr0 hc0 he
 by_cases hc : e = 0 ∧ ¬ a1 < -1 ∧ ¬ a2 < 0
 case pos =>
  rw [if_pos hc] at h
  split at h
  case isFalse => cases h
  rename_i hl
  simp only [Option.some.injEq, Prod.mk.injEq] at h
  obtain ⟨rfl, rfl, rfl, rfl⟩ := h
  obtain ⟨rfl, h1, h2⟩ := hc
  have d1 : decide (a1 < -1) = false := by simpa using h1
  have d2 : decide (a2 < 0) = false := by simpa using h2
  have HL := Aside0.mk hl
  clear h1 h2 hl
  go_enter Try.func50, Try.ntmps50
  go_wp2_with (first
   | (go_at_call 46; refine (edges_Check.calls k _ _ l0 0 _ (Kd.C_below HR0.out HB.out) HC0.out HE.out).mono ?_; rintro e w1 ⟨rfl, hb⟩; have n0_ := Aside0.mk (below_step HB.out hb); clear HB hb; have HB := n0_; clear n0_)
   | (go_at_call 58; refine (bs_calls _ _ l0 a1 a2 _ (Kd.C_below HR0.out HB.out) HL.out).mono ?_; rintro e w2 ⟨rfl, hb⟩; have n0_ := Aside0.mk (below_step HB.out hb); clear HB hb; have HB := n0_; clear n0_)
   | (go_at_call 47; refine (api_Edge_47.calls _ _ l0 l0 _ (Kd.C_below HR0.out HB.out) HC0.out (by unfold api_Edge_47.f; rw [if_pos HL.out])).mono ?_; rintro e w3 ⟨v, rfl, ho, hb⟩; have HO := Aside0.mk (Kd.R_lower ho (below_size HB.out)); have n0_ := Aside0.mk (below_step HB.out hb); clear HB hb ho; have HB := n0_; clear n0_))
  refine bodyPost_ret (results_list (rs := [.tmp 6, .tmp 7, .tmp 8, .tmp 9]) rfl (by simp) (.tmp (.tmp (.tmp (.tmp .nil))))) rfl ?_
  exact ⟨_, rfl, HO.out, HB.out⟩
 case neg =>
  rw [if_neg hc] at h
  simp only [Option.some.injEq, Prod.mk.injEq] at h
  obtain ⟨rfl, rfl, rfl, rfl⟩ := h
  have HCc := Aside0.mk hc
  clear hc
  by_cases he0 : e = 0
  case neg =>
   have d0 : (e == 0) = false := by simpa using he0
   have d1 : (e != 0) = true := by simpa using he0
   clear he0
   go_enter Try.func50, Try.ntmps50
   go_wp2_with (first
    | (go_at_call 46; refine (edges_Check.calls k _ _ l0 e _ (Kd.C_below HR0.out HB.out) HC0.out HE.out).mono ?_; rintro e w1 ⟨rfl, hb⟩; have n0_ := Aside0.mk (below_step HB.out hb); clear HB hb; have HB := n0_; clear n0_))
   refine bodyPost_ret (results_list (rs := [.tmp 6, .tmp 7, .tmp 8, .tmp 9]) rfl (by simp) (.tmp (.tmp (.tmp (.tmp .nil))))) rfl ?_
   exact ⟨_, rfl, Kd.R_nil _ _ _ _ _, HB.out⟩
  case pos =>
   subst he0
   by_cases h1 : a1 < -1
   case pos =>
    have d1 : decide (a1 < -1) = true := by simpa using h1
    clear h1
    go_enter Try.func50, Try.ntmps50
    go_wp2_with (first
     | (go_at_call 46; refine (edges_Check.calls k _ _ l0 0 _ (Kd.C_below HR0.out HB.out) HC0.out HE.out).mono ?_; rintro e w1 ⟨rfl, hb⟩; have n0_ := Aside0.mk (below_step HB.out hb); clear HB hb; have HB := n0_; clear n0_))
    refine bodyPost_ret (results_list (rs := [.tmp 6, .tmp 7, .tmp 8, .tmp 9]) rfl (by simp) (.tmp (.tmp (.tmp (.tmp .nil))))) rfl ?_
    exact ⟨_, rfl, Kd.R_nil _ _ _ _ _, HB.out⟩
   case neg =>
    have h2 : a2 < 0 := Classical.byContradiction fun h => HCc.out ⟨rfl, h1, h⟩
    have d1 : decide (a1 < -1) = false := by simpa using h1
    have d2 : decide (a2 < 0) = true := by simpa using h2
    clear h1 h2
    go_enter Try.func50, Try.ntmps50
    go_wp2_with (first
     | (go_at_call 46; refine (edges_Check.calls k _ _ l0 0 _ (Kd.C_below HR0.out HB.out) HC0.out HE.out).mono ?_; rintro e w1 ⟨rfl, hb⟩; have n0_ := Aside0.mk (below_step HB.out hb); clear HB hb; have HB := n0_; clear n0_))
    refine bodyPost_ret (results_list (rs := [.tmp 6, .tmp 7, .tmp 8, .tmp 9]) rfl (by simp) (.tmp (.tmp (.tmp (.tmp .nil))))) rfl ?_
    exact ⟨_, rfl, Kd.R_nil _ _ _ _ _, HB.out⟩

end Go.Proofs.Ytpiamehededilaa.P
