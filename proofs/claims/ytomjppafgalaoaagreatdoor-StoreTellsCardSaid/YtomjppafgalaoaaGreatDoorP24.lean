-- half the indentation
import Derived.Test.YtomjppafgalaoaaGreatDoorSqz
import Derived.Test.YtomjppafgalaoaaGreatDoorP0
import Derived.Test.YtomjppafgalaoaaGreatDoorP21
import Derived.Test.YtomjppafgalaoaaGreatDoorP23
namespace Go.Proofs.YtomjppafgalaoaaGreatDoor.P
open Go.RowKit Go.Proofs.YtomjppafgalaoaaGreatDoorW.PrintWords Go.Proofs.YtomjppafgalaoaaGreatDoorW.PrintLast Go.Proofs.YtomjppafgalaoaaGreatDoorW.PrintMore
attribute [local go_sem] max2_int min2_int max_two min_two max_three min_three max_four min_four
set_option linter.unusedVariables false
set_option linter.unusedSimpArgs false
set_option maxHeartbeats 8000000
set_option maxRecDepth 100000

-- HAND: slices_Clone_string_string: with the text above

/-! ### store_own: function 22 -/
def store_own.f (l0_0 : List (S27)) (l0_1 : List ByteArray) : Option ((List (S27)) × List ByteArray) := (api_Node_40.f l0_0).bind fun bI => ((slices_Clone_string_string.f l0_1).bind fun bJ => (some (bI, bJ)))
def store_own.T1 : Bool × List (List Nat × List Nat) := (true, [([], []), ([0], [0]), ([1], [1]), ([], []), ([3], [3]), ([4, 2], [4]), ([2, 5], [2, 5]), ([6, 5, 0, 1, 2, 3, 4, 5, 6], [6])])
def store_own.B1 : List Nat := [0, 1, 3, 0, 8, 31, 63, 127]
theorem store_own.tab1 : rtab .any (opsOf Tryz.f22 1) = store_own.T1 := by kernel_rfl
theorem store_own.bits1 : waitsOk store_own.T1.2 store_own.B1 = true := by kernel_rfl
theorem store_own.calls (av : Option Addr) (aw : Nat) (l0_0 : List (S27)) (ay : Option Addr) (az : Nat) (l0_1 : List ByteArray) (r1 : List (S27)) (r2 : List ByteArray) (w : World) (hr0_0 : Kd.C k27 w av l0_0.length l0_0) (hc0_0 : l0_0.length ≤ aw) (hr0_1 : Kd.C Kd.string w ay l0_1.length l0_1) (hc0_1 : l0_1.length ≤ az) (h : store_own.f l0_0 l0_1 = some (r1, r2)) :
  Calls Tryz.prog 22 #[.agg #[.slice av l0_0.length aw, .slice ay l0_1.length az]] w fun e w' => ∃ v0_ v1_ : Value, e = .returned (.agg #[v0_, v1_]) ∧ Kd.R k27 27 w' w.heap.size (fun _ => True) v0_ r1 ∧ Kd.R Kd.string 9 w' w.heap.size (fun _ => True) v1_ r2 ∧ Below w.heap.size w w' := by
 have hu25 := Tryz.underlying25
 have c1 := Aside0.mk hr0_0
 have c3 := Aside0.mk hc0_0
 clear hr0_0 hc0_0
 have c6 := Aside0.mk hr0_1
 have c_ := Aside0.mk hc0_1
 clear hr0_1 hc0_1
 have HB := am (Below.refl w.heap.size w)
 unfold store_own.f at h; have H := h; clear h
 replace H := bnd H; obtain ⟨bI, A2, H⟩ := H
 replace H := bnd H; obtain ⟨bJ, A3, H⟩ := H
 replace H := prB H; obtain ⟨rfl, rfl⟩ := H
 go_enter Tryz.func22, Tryz.ntmps22
 try go_wp2_with (first | ((with_reducible refine gtD 1 ?_); refine xBx 1 25 #[.slice av l0_0.length aw, .slice ay l0_1.length az] ?_; intro cH hg w4 hbox hb; have aU := am (hbox); have fA := am ((gTx hg HB.out)); have fC := am ((gTx hg HB.out)); replace HB := am (sTx HB.out hb); clear hb hbox hg) | ((with_reducible refine gtD 2 ?_); refine xBx 2 25 #[.slice none 0 0, .slice none 0 0] ?_; intro bD hg w5 hbox hb; have a9 := am (hbox); have fD := am ((gTx hg HB.out)); have fE := am ((gTx hg HB.out)); have a6 := am ((nT aU.out hg)); have bP := am ((mT aU.out hg)); replace aU := am (bB aU.out hb); replace HB := am (sTx HB.out hb); clear hb hbox hg))
 replace aU := am (blk_drew aU.out)
 replace a9 := am (blk_drew a9.out)
 replace HB := am (below_drew1 HB.out)
 refine start_ (n := 8) (S := fun w' => w'.cell? ⟨cH, 0, none⟩ = some (.slice av l0_0.length aw) ∧ w'.cell? ⟨cH, 1, none⟩ = some (.slice ay l0_1.length az)) (ds := []) (bA 8 0) rfK rfl rfK ⟨cT aU 0, cT aU 1⟩ (fun hHeld => ?_); refine with_tabW store_own.tab1 store_own.bits1 (fun HT_ HW_ => ?_)
 generalize w5.drew = w6 at aU a9 HB hHeld ⊢
 refine pT 0 3 (bA 8 1) HT_.out ?_
 refine pT 3 6 (bA 8 9) HT_.out ?_
 refine tT 1 4 (bA 8 11) HT_.out HW_.out hHeld ?_ (hy := by rintro w' ⟨s0, s1⟩; go_simp; with_reducible rfl)
 refine tT 4 7 (bA 8 27) HT_.out HW_.out hHeld ?_ (hy := by rintro w' ⟨s0, s1⟩; go_simp; with_reducible rfl)
 refine oT 2 (bA 8 31) HT_.out fun K hK => ?_
 refine gS Tryz.func40 #[.slice av l0_0.length aw] ?_
 with_reducible refine (api_Node_40.calls _ _ l0_0 bI _ (cW (Kd.C_below c1.out HB.out)) c3.out A2.out).mono ?_
 rintro e w7 ⟨gf, rfl, ho0, hb⟩
 refine ⟨_, rfl, ?_⟩
 have bW := am (Kd.R_lower ho0 (below_size (eTx HB.out)))
 replace aU := am (bB aU.out hb)
 replace a9 := am (bB a9.out hb)
 replace HB := am (sTx HB.out hb)
 refine hK.out _ _ ⟨cT aU 0, cT aU 1⟩ (fun hHeld => ?_)
 clear hK K
 refine mN 5 ?_
 refine oT 5 (bA 8 63) HT_.out fun K hK => ?_
 refine gS Tryz.func41 #[.slice ay l0_1.length az] ?_
 with_reducible refine (slices_Clone_string_string.calls _ _ l0_1 bJ _ (cW (Kd.C_below c6.out HB.out)) c_.out A3.out).mono ?_
 rintro e w8 ⟨gg, rfl, ho0, hb⟩
 refine ⟨_, rfl, ?_⟩
 replace bW := am (rB bW.out hb)
 have cI := am (Kd.R_lower ho0 (below_size (eTx HB.out)))
 replace aU := am (bB aU.out hb)
 replace a9 := am (bB a9.out hb)
 replace HB := am (sTx HB.out hb)
 obtain ⟨Ao9, co9, eo9⟩ := Kd.R_slice cI.out
 (first | subst eo9 | (injection eo9 with f1_ f2_ f3_; have f4_ := f1_.symm; have f5_ := f3_.symm; clear f1_ f2_ f3_; subst f4_; subst f5_))
 obtain ⟨cd, b3, b4⟩ := Kd.R_slice bW.out
 (first | subst b4 | (injection b4 with f1_ f2_ f3_; have f4_ := f1_.symm; have f5_ := f3_.symm; clear f1_ f2_ f3_; subst f4_; subst f5_))
 refine hK.out _ _ ⟨cT aU 0, cT aU 1⟩ (fun hHeld => ?_)
 clear hK K
 refine mN 8 ?_
 refine pT 6 9 (bA 8 127) HT_.out ?_
 refine oT 7 (bA 8 255) HT_.out fun K hK => ?_
 obtain ⟨gh, fF⟩ := bxA a9
 have dD := a6.out
 have dE := bP.out
 have gi : w8.cell? ⟨bD, 1, none⟩ = some (.slice none 0 0) := cT a9 1
 have fG := blk_frozen a9.out 1
 have dF := a6.out
 have dG := bP.out
 refine skip_ (w1 := ?_) (by rfl) rfl ?_ ?_
 rotate_left
 ·go_simp
  rfl
 refine hK.out _ _ kCl (fun hHeld => ?_)
 clear hK K
 refine done_ (done_of HT_.out rfK) ?_
 try go_wp2
 refine bodyPost_ret (results_cell_row rfl _ _ bD 25 #[.slice cd bI.length b3, .slice Ao9 bJ.length co9] (0, 0) _ rfl kBk Tryz.underlying25 rfl rfK) rfl ?_
 exact ⟨_, _, rfF, by (with_reducible repeat (first | apply Kd.R_alloc | apply Kd.R_drewN | apply Kd.R_drew)); exact Kd.R_mono (Kd.R_far (p := ⟨bD, 1, none⟩) (Kd.R_far (p := ⟨bD, 0, none⟩) (Kd.R_types bW.out a9.out (by decide)) (fun _ hk => hk.2) (.slice cd bI.length b3)) (fun _ hk => hk.2) (.slice Ao9 bJ.length co9)) (fun _ hk => trivial), by (with_reducible repeat (first | apply Kd.R_alloc | apply Kd.R_drewN | apply Kd.R_drew)); exact Kd.R_mono (Kd.R_far (p := ⟨bD, 1, none⟩) (Kd.R_far (p := ⟨bD, 0, none⟩) (Kd.R_types cI.out a9.out (by decide)) (fun _ hk => hk.2) (.slice cd bI.length b3)) (fun _ hk => hk.2) (.slice Ao9 bJ.length co9)) (fun _ hk => trivial), eTx HB.out⟩

-- HAND: api_Node_23: with the text above

-- HAND: slices_Insert_string_string: with the text above

/-! ### store_Put: function 7 -/
def store_Put.f (k : Nat) (l0_0 : List (S27)) (l0_1 : List ByteArray) (a1_0 : ByteArray) (a1_1 : ByteArray) (a2 : ByteArray) : Option ((List (S27)) × List ByteArray × Int) := (store_find.f k l0_0 l0_1 a1_0 a1_1).bind fun bt270 => (if bt270.2.2 = 0 then ((store_own.f l0_0 l0_1).bind fun bt273 => (if bt270.2.1 = true then (if 0 ≤ bt270.1 then (if bt270.1 < (bt273.2.length : Int) then (some (bt273.1, (bt273.2.set (bt270.1 : Int).toNat a2), 0)) else (none)) else (none)) else ((api_Node_23.f bt273.1 bt270.1 (([(⟨a1_0, a1_1⟩ : S27)] : List (S27)))).bind fun aV => ((slices_Insert_string_string.f bt273.2 bt270.1 (([a2] : List ByteArray))).bind fun a7 => (some (aV, a7, 0)))))) else (some (l0_0, l0_1, bt270.2.2)))
theorem store_Put.mono : ∀ a0 a1 a2 a3 a4 k, LeO (store_Put.f k a0 a1 a2 a3 a4) (store_Put.f (k + 1) a0 a1 a2 a3 a4) := by
 intro a0 a1 a2 a3 a4 k
 unfold store_Put.f
 repeat' first | (with_reducible first | apply store_find.mono | apply LeO.refl | apply LeO.none | apply LeO.ite | refine LeO.bind ?_ (fun _ => ?_)) | apply store_find.mono | exact LeO.none _ | refine LeO.ite ?_ ?_ | refine LeO.bind ?_ (fun _ => ?_)
def store_Put.T8 : Bool × List (List Nat × List Nat) := (true, [([], []), ([0], [0]), ([], []), ([], []), ([3], [3]), ([1, 2, 4], [1, 2, 4]), ([], []), ([6], [6]), ([], []), ([], []), ([9], [9]), ([7, 8, 10, 5], [7, 8, 10]), ([0, 1, 2, 3, 4, 5, 6, 7], []), ([12, 5, 11, 0, 1, 2, 3, 4, 5, 6, 7], [5, 12]), ([0, 1, 2, 3, 4, 5, 6, 7, 8, 9, 10, 11, 12, 13], []), ([14, 11, 13, 0, 1, 2, 3, 4, 5, 6, 7, 8, 9, 10, 11, 12, 13], [11, 14])])
def store_Put.B8 : List Nat := [0, 1, 0, 0, 8, 31, 0, 64, 0, 0, 512, 2047, 255, 8191, 16383, 32767]
theorem store_Put.tab8 : rtab .any (opsOf Tryz.f7 8) = store_Put.T8 := by kernel_rfl
theorem store_Put.bits8 : waitsOk store_Put.T8.2 store_Put.B8 = true := by kernel_rfl
theorem store_Put.calls (k : Nat) (P0_0_ : Nat → Prop) (av : Option Addr) (aw : Nat) (l0_0 : List (S27)) (P0_1_ : Nat → Prop) (ay : Option Addr) (az : Nat) (l0_1 : List ByteArray) (a1_0 : ByteArray) (a1_1 : ByteArray) (a2 : ByteArray) (r1 : List (S27)) (r2 : List ByteArray) (r3 : Int) (w : World) (b5 : Kd.V k27 27 w w.heap.size (fun k_ => P0_0_ k_) (.slice av l0_0.length aw) l0_0) (b6 : Kd.V Kd.string 9 w w.heap.size (fun k_ => P0_1_ k_) (.slice ay l0_1.length az) l0_1) (h : store_Put.f k l0_0 l0_1 a1_0 a1_1 a2 = some (r1, r2, r3)) :
  Calls Tryz.prog 7 #[.agg #[.slice av l0_0.length aw, .slice ay l0_1.length az], .agg #[.string a1_0, .string a1_1], .string a2] w fun e w' => ∃ v0_ v1_ : Value, e = .returned (.tuple #[.agg #[v0_, v1_], .int .i64 r3]) ∧ Kd.V k27 27 w' w.heap.size (fun k_ => ((P0_0_ k_ ∨ P0_1_ k_) ∨ w.heap.size ≤ k_)) v0_ r1 ∧ Kd.V Kd.string 9 w' w.heap.size (fun k_ => ((P0_0_ k_ ∨ P0_1_ k_) ∨ w.heap.size ≤ k_)) v1_ r2 ∧ Below w.heap.size w w' := by
 have hu25 := Tryz.underlying25
 have hu27 := Tryz.underlying27
 have aa := am (show Kd.V k27 27 w w.heap.size (fun k_ => ((P0_0_ k_ ∨ P0_1_ k_) ∨ w.heap.size ≤ k_)) (.slice av l0_0.length aw) l0_0 from Kd.V_mono b5 (fun k_ hk => .inl (.inl hk)))
 have ab := am (show Kd.V Kd.string 9 w w.heap.size (fun k_ => ((P0_0_ k_ ∨ P0_1_ k_) ∨ w.heap.size ≤ k_)) (.slice ay l0_1.length az) l0_1 from Kd.V_mono b6 (fun k_ hk => .inl (.inr hk)))
 have HB := am (Below.refl w.heap.size w)
 unfold store_Put.f at h; have H := h; clear h
 replace H := bnd H; obtain ⟨⟨aE, ce, bM⟩, A4, H⟩ := H
 (try dsimp only at H)
 replace H := ifP H; rcases H with ⟨c5, H⟩ | ⟨c5, H⟩
 ·have fm := beq_iff_eq.mpr c5
  have fn := bne_eq_false_iff_eq.mpr c5
  clear c5
  replace H := bnd H; obtain ⟨⟨aq, al⟩, A6, H⟩ := H
  (try dsimp only at H)
  replace H := ifB H; rcases H with ⟨rfl, H⟩ | ⟨rfl, H⟩
  ·replace H := ifN H; obtain ⟨c8, H⟩ := H
   have gj := decide_eq_true c8
   clear c8
   replace H := ifN H; obtain ⟨c9, H⟩ := H
   have gk := decide_eq_true c9
   clear c9
   obtain ⟨da, bR⟩ : ∃ y_ : List ByteArray, y_ = (al.set (aE : Int).toNat a2) := ⟨_, rfl⟩
   replace H : (some (aq, da, 0)) = some (r1, r2, r3) := by first | (rw [bR]; with_reducible exact H) | (have H2_ := (Option.bind_some _ _).symm.trans H; rw [bR]; with_reducible exact H2_) | (have H2_ := (Option.bind_some _ _).symm.trans H; with_reducible exact H2_) | with_reducible exact H | (rw [bR]; exact H) | exact H
   have Ny280 := Aside0.mk bR
   clear bR
   simp only [Option.some.injEq, Prod.mk.injEq] at H
   obtain ⟨rfl, rfl, rfl⟩ := H
   go_enter Tryz.func7, Tryz.ntmps7
   go_wp2_with (first | ((with_reducible refine gtD 3 ?_); refine xBx 3 25 #[.slice av l0_0.length aw, .slice ay l0_1.length az] ?_; intro ar hg w11 hbox hb; replace aa := am (Kd.V_below (Kd.V_elderB (vT aa.out) ar (Nat.le_of_eq hg.symm)) hb); replace ab := am (Kd.V_below (Kd.V_elderB (vT ab.out) ar (Nat.le_of_eq hg.symm)) hb); have ac := am (hbox); have cJ := am ((gTx hg HB.out)); have cK := am ((gTx hg HB.out)); replace HB := am (sTx HB.out hb); clear hb hbox hg) | ((with_reducible refine gtD 4 ?_); refine xBx 4 27 #[.string a1_0, .string a1_1] ?_; intro ai hg w12 hbox hb; replace aa := am (Kd.V_below (Kd.V_elderB (vT aa.out) ai (Nat.le_of_eq hg.symm)) hb); replace ab := am (Kd.V_below (Kd.V_elderB (vT ab.out) ai (Nat.le_of_eq hg.symm)) hb); have ad := am (hbox); have cL := am ((gTx hg HB.out)); have cM := am ((gTx hg HB.out)); have bc := am ((nT ac.out hg)); have be := am ((mT ac.out hg)); replace ac := am (bB ac.out hb); replace HB := am (sTx HB.out hb); clear hb hbox hg) | ((with_reducible refine gtD 6 ?_); refine xBx 6 25 #[.slice none 0 0, .slice none 0 0] ?_; intro an hg w13 hbox hb; replace aa := am (Kd.V_below (Kd.V_elderB (vT aa.out) an (Nat.le_of_eq hg.symm)) hb); replace ab := am (Kd.V_below (Kd.V_elderB (vT ab.out) an (Nat.le_of_eq hg.symm)) hb); have ag := am (hbox); have cN := am ((gTx hg HB.out)); have cO := am ((gTx hg HB.out)); have bf := am ((nT ac.out hg)); have bg := am ((mT ac.out hg)); have bh := am ((nT ad.out hg)); have bi := am ((mT ad.out hg)); replace ac := am (bB ac.out hb); replace ad := am (bB ad.out hb); replace HB := am (sTx HB.out hb); clear hb hbox hg; have fH := bc.out; have fI := be.out; have db := bf.out; have dc := bg.out; obtain ⟨cf, cg, ch, ci⟩ := bxB ac; have fJ := bh.out; have fK := bi.out; obtain ⟨cj, ck, cl, cm⟩ := bxB ad) | ((with_reducible refine gtC 21 ?_); refine xCb 15 Tryz.func21 (store_find.calls k _ _ l0_0 _ _ l0_1 a1_0 a1_1 aE true bM _ (cW (Kd.V_reads' aa.out).2.2) ((Kd.V_reads' aa.out).2.1) (cW (Kd.V_reads' ab.out).2.2) ((Kd.V_reads' ab.out).2.1) A4.out) fun w19 hb => ?_; replace aa := am (vB aa.out hb); replace ab := am (vB ab.out hb); replace ac := am (bB ac.out hb); replace ad := am (bB ad.out hb); replace ag := am (bB ag.out hb); replace HB := am (sTx HB.out hb); obtain ⟨dH, dI, dJ, dK⟩ := bxB ac) | ((with_reducible refine gtC 22 ?_); refine xCl 24 Tryz.func22 (store_own.calls _ _ l0_0 _ _ l0_1 aq al _ (cW (Kd.V_reads' aa.out).2.2) ((Kd.V_reads' aa.out).2.1) (cW (Kd.V_reads' ab.out).2.2) ((Kd.V_reads' ab.out).2.1) A6.out) ?_; rintro e w21 ⟨fo, fp, rfl, ho0, ho1, hb⟩; refine ⟨_, rfl, ?_⟩; replace aa := am (Kd.V_mono (Kd.V_told (Kd.V_told (Kd.V_old (vT aa.out) hb) (Kd.R_base ho0)) (Kd.R_base ho1)) (fun _ h_ => h_.1)); replace ab := am (Kd.V_mono (Kd.V_told (Kd.V_told (Kd.V_old (vT ab.out) hb) (Kd.R_base ho0)) (Kd.R_base ho1)) (fun _ h_ => h_.1)); have aj := am (Kd.R_lower (Kd.R_newB (Kd.R_newM (M := fun k_ => (w.heap.size ≤ k_)) ho0 (below_size (eTx HB.out)) (fun k_ h_ => h_)) (g := ai) (o := .cells #[.string a1_0, .string a1_1] 27 (0, 0)) (bT ad.out)) (below_size (eTx HB.out))); have ak := am (Kd.R_lower (Kd.R_newM (M := fun k_ => (w.heap.size ≤ k_)) ho1 (below_size (eTx HB.out)) (fun k_ h_ => h_)) (below_size (eTx HB.out))); replace ac := am (bB ac.out hb); replace ag := am (bB ag.out hb); replace ad := am (bB ad.out hb); replace HB := am (sTx HB.out hb)) | ((with_reducible refine gtD 11 ?_); refine xBx 11 25 #[.slice none 0 0, .slice none 0 0] ?_; intro ae hg w22 hbox hb; replace aa := am (Kd.V_below (Kd.V_elderB (vT aa.out) ae (Nat.le_of_eq hg.symm)) hb); replace ab := am (Kd.V_below (Kd.V_elderB (vT ab.out) ae (Nat.le_of_eq hg.symm)) hb); replace aj := am (rB aj.out hb); replace ak := am (rB ak.out hb); have af := am (hbox); have dd := am ((gTx hg HB.out)); have de := am ((gTx hg HB.out)); have aI := am ((nT ac.out hg)); have bj := am ((mT ac.out hg)); have aJ := am ((nT ad.out hg)); have bk := am ((mT ad.out hg)); have aF := am ((nT ag.out hg)); have bl := am ((mT ag.out hg)); replace ac := am (bB ac.out hb); replace ad := am (bB ad.out hb); replace ag := am (bB ag.out hb); replace HB := am (sTx HB.out hb); clear hb hbox hg; obtain ⟨bv, bw, fq⟩ := Kd.R_slice aj.out; subst fq; have df := bj.out; have dg := aI.out; have fL := bk.out; have fM := aJ.out; have fN := bl.out; have fO := aF.out; obtain ⟨dL, dM, dN, dP⟩ := bxB af; obtain ⟨bN, a_, fr⟩ := Kd.R_slice ak.out; subst fr) | ((with_reducible refine gate_store (t := 25) (p := 11) rfl ?_); refine store_event (t := 25) (p := 11) (v := ?vo_w29) (w1 := ((w22.setCell ⟨ae, 0, none⟩ (.slice bv aq.length bw)).setCell ⟨ae, 1, none⟩ (.slice bN al.length a_))) ?hg ?ho ?hn ?hr ?_; (case ho => rfl); (case hg => rfl); (case hn => rfl); (case hr => first | (go_simp; done) | (go_simp; rfl)); intro w29 hw; have n0_ : Aside0 (Kd.V k27 27 w29 w.heap.size (fun k_ => ((P0_0_ k_ ∨ P0_1_ k_) ∨ w.heap.size ≤ k_) ∧ some k_ ≠ (.slice bv aq.length bw : Value).ownBlock ∧ some k_ ≠ (.slice bN al.length a_ : Value).ownBlock ∧ k_ ≠ ar ∧ k_ ≠ ai ∧ k_ ≠ an ∧ k_ ≠ ae) (.slice av l0_0.length aw) l0_0) := ⟨(by rw [hw]; exact (by (with_reducible repeat (first | apply Kd.V_alloc | apply Kd.V_drewN | apply Kd.V_drew)); exact Kd.V_mono (Kd.V_far (p := ⟨ae, 1, none⟩) (Kd.V_far (p := ⟨ae, 0, none⟩) (Kd.V_mono aa.out (fun k_ hk => (⟨hk, hk.2⟩ : _ ∧ k_ ≠ ae))) (fun _ hk => hk.2) (.slice bv aq.length bw)) (fun _ hk => hk.2) (.slice bN al.length a_)) (fun _ hk => ⟨hk.1.1.1.1.1.1.1, ⟨hk.1.1.1.2, ⟨hk.1.1.2, ⟨hk.1.1.1.1.1.1.2, ⟨hk.1.1.1.1.1.2, ⟨hk.1.1.1.1.2, hk.1.2⟩⟩⟩⟩⟩⟩)))⟩; have n1_ : Aside0 (Kd.V Kd.string 9 w29 w.heap.size (fun k_ => ((P0_0_ k_ ∨ P0_1_ k_) ∨ w.heap.size ≤ k_) ∧ some k_ ≠ (.slice bv aq.length bw : Value).ownBlock ∧ some k_ ≠ (.slice bN al.length a_ : Value).ownBlock ∧ k_ ≠ ar ∧ k_ ≠ ai ∧ k_ ≠ an ∧ k_ ≠ ae) (.slice ay l0_1.length az) l0_1) := ⟨(by rw [hw]; exact (by (with_reducible repeat (first | apply Kd.V_alloc | apply Kd.V_drewN | apply Kd.V_drew)); exact Kd.V_mono (Kd.V_far (p := ⟨ae, 1, none⟩) (Kd.V_far (p := ⟨ae, 0, none⟩) (Kd.V_mono ab.out (fun k_ hk => (⟨hk, hk.2⟩ : _ ∧ k_ ≠ ae))) (fun _ hk => hk.2) (.slice bv aq.length bw)) (fun _ hk => hk.2) (.slice bN al.length a_)) (fun _ hk => ⟨hk.1.1.1.1.1.1.1, ⟨hk.1.1.1.2, ⟨hk.1.1.2, ⟨hk.1.1.1.1.1.1.2, ⟨hk.1.1.1.1.1.2, ⟨hk.1.1.1.1.2, hk.1.2⟩⟩⟩⟩⟩⟩)))⟩; have n2_ : Aside0 (Kd.R k27 27 w29 w.heap.size (fun k_ => (w.heap.size ≤ k_) ∧ k_ ≠ ai) (.slice bv aq.length bw) aq) := ⟨(by rw [hw]; exact (by (with_reducible repeat (first | apply Kd.R_alloc | apply Kd.R_drewN | apply Kd.R_drew)); exact Kd.R_mono (Kd.R_far (p := ⟨ae, 1, none⟩) (Kd.R_far (p := ⟨ae, 0, none⟩) (Kd.R_types aj.out af.out (by decide)) (fun _ hk => hk.2) (.slice bv aq.length bw)) (fun _ hk => hk.2) (.slice bN al.length a_)) (fun _ hk => ⟨hk.1.1.1, hk.1.2⟩)))⟩; have n3_ : Aside0 (Kd.R Kd.string 9 w29 w.heap.size (fun k_ => (w.heap.size ≤ k_)) (.slice bN al.length a_) al) := ⟨(by rw [hw]; exact (by (with_reducible repeat (first | apply Kd.R_alloc | apply Kd.R_drewN | apply Kd.R_drew)); exact Kd.R_mono (Kd.R_far (p := ⟨ae, 1, none⟩) (Kd.R_far (p := ⟨ae, 0, none⟩) (Kd.R_types ak.out af.out (by decide)) (fun _ hk => hk.2) (.slice bv aq.length bw)) (fun _ hk => hk.2) (.slice bN al.length a_)) (fun _ hk => hk.1.1)))⟩; have n4_ : Aside0 (w29.heap[ar]? = some (.cells #[.slice av l0_0.length aw, .slice ay l0_1.length az] 25 (0, 0))) := ⟨(by rw [hw]; exact kBk)⟩; have n5_ : Aside0 (w29.heap[ai]? = some (.cells #[.string a1_0, .string a1_1] 27 (0, 0))) := ⟨(by rw [hw]; exact kBk)⟩; have n6_ : Aside0 (w29.heap[an]? = some (.cells #[.slice none 0 0, .slice none 0 0] 25 (0, 0))) := ⟨(by rw [hw]; exact kBk)⟩; have n7_ : Aside0 (w29.heap[ae]? = some (.cells #[.slice bv aq.length bw, .slice bN al.length a_] 25 (0, 0))) := ⟨(by rw [hw]; exact kBk)⟩; have n8_ : Aside0 (Below w.heap.size w w29) := ⟨(by rw [hw]; exact (eTx HB.out))⟩; clear hw aa ab aj ak ac ad ag af HB; have aa := n0_; have ab := n1_; have aj := n2_; have ak := n3_; have ac := n4_; have ad := n5_; have ag := n6_; have af := n7_; have HB := n8_; clear n0_ n1_ n2_ n3_ n4_ n5_ n6_ n7_ n8_; obtain ⟨dQ, dR, dS, dU⟩ := bxB af; have p10 : 0 ≤ (aE : Int) := of_decide_eq_true rfA; have q10 : (aE : Int) < ((al.length : Int) : Int) := of_decide_eq_true rfA; obtain ⟨go10, b3, b4, dh, gl10, cl10, HG10⟩ := Kd.R_form ak.out (by omega); (first | cases b4 | (injection b4 with ea_ en_ ec_; (first | subst ea_ | (injection ea_ with ea_; subst ea_)); subst ec_; clear en_)); have GB10 := Aside0.mk dh; have GG10 := Aside0.mk HG10; clear dh gl10 HG10; obtain ⟨fs, ft⟩ := Kd.R_celln (⟨#[]⟩ : ByteArray) ak.out (aE : Int) p10 q10; replace p10 := eq_true p10; replace q10 := eq_true q10; obtain ⟨fP, hz31_⟩ := Kd.R_celln (⟨#[]⟩ : ByteArray) ak.out (aE : Int) (of_decide_eq_true rfA) (of_decide_eq_true rfA); have HP31 := Kd.R_putg ak.out (aE : Int) a2) | ((with_reducible refine gate_store (t := 9) (p := 30) rfl ?_); refine store_event (t := 9) (p := 30) (v := ?vo_w32) (w1 := (w29.setCell ⟨go10, (aE : Int).toNat, none⟩ (.string a2))) ?hg ?ho ?hn ?hr ?_; (case ho => rfl); (case hg => rfl); (case hn => rfl); (case hr => first | (go_simp; done) | (go_simp; rfl)); intro w32 hw; have hg : w29.grownBy w32 (some go10) := (by rw [hw]; exact HP31.2); have hp_ : Kd.R Kd.string 9 w32 w.heap.size (fun k_ => (w.heap.size ≤ k_)) (.slice (some ⟨go10, 0, none⟩) al.length a_) da := (by rw [hw, Ny280.out]; exact HP31.1); clear HP31; replace aa := am (Kd.V_afterv (v := (.slice (some ⟨go10, 0, none⟩) al.length a_)) (v1 := (.slice (some ⟨go10, 0, none⟩) al.length a_)) (ok := (fun k_ => ((P0_0_ k_ ∨ P0_1_ k_) ∨ w.heap.size ≤ k_) ∧ some k_ ≠ (.slice bv aq.length bw : Value).ownBlock ∧ k_ ≠ ar ∧ k_ ≠ ai ∧ k_ ≠ an ∧ k_ ≠ ae)) (by (with_reducible repeat (first | apply Kd.V_alloc | apply Kd.V_drewN | apply Kd.V_drew)); exact Kd.V_mono aa.out (fun _ hk => ⟨⟨hk.1, ⟨hk.2.1, ⟨hk.2.2.2.1, ⟨hk.2.2.2.2.1, ⟨hk.2.2.2.2.2.1, hk.2.2.2.2.2.2⟩⟩⟩⟩⟩, hk.2.2.1⟩)) hg (.inl rfl)); replace ab := am (Kd.V_afterv (v := (.slice (some ⟨go10, 0, none⟩) al.length a_)) (v1 := (.slice (some ⟨go10, 0, none⟩) al.length a_)) (ok := (fun k_ => ((P0_0_ k_ ∨ P0_1_ k_) ∨ w.heap.size ≤ k_) ∧ some k_ ≠ (.slice bv aq.length bw : Value).ownBlock ∧ k_ ≠ ar ∧ k_ ≠ ai ∧ k_ ≠ an ∧ k_ ≠ ae)) (by (with_reducible repeat (first | apply Kd.V_alloc | apply Kd.V_drewN | apply Kd.V_drew)); exact Kd.V_mono ab.out (fun _ hk => ⟨⟨hk.1, ⟨hk.2.1, ⟨hk.2.2.2.1, ⟨hk.2.2.2.2.1, ⟨hk.2.2.2.2.2.1, hk.2.2.2.2.2.2⟩⟩⟩⟩⟩, hk.2.2.1⟩)) hg (.inl rfl)); replace ac := am (blk_grown (g := ar) (o := .cells #[.slice av l0_0.length aw, .slice ay l0_1.length az] 25 (0, 0)) (bT ac.out) hg (Kd.R_ne ak.out ac.out (by decide))); replace ad := am (blk_grown (g := ai) (o := .cells #[.string a1_0, .string a1_1] 27 (0, 0)) (bT ad.out) hg (Kd.R_ne ak.out ad.out (by decide))); replace ag := am (blk_grown (g := an) (o := .cells #[.slice none 0 0, .slice none 0 0] 25 (0, 0)) (bT ag.out) hg (Kd.R_ne ak.out ag.out (by decide))); replace aj := am (Kd.R_over' (v := (.slice (some ⟨go10, 0, none⟩) al.length a_)) (rT aj.out) (Kd.R_typed ak.out) (by decide) hg); replace af := am (blk_grown (g := ae) (o := .cells #[.slice bv aq.length bw, .slice (some ⟨go10, 0, none⟩) al.length a_] 25 (0, 0)) (bT af.out) hg (Kd.R_ne ak.out af.out (by decide))); replace HB := am ((by rw [hw]; exact below_set (HB.out) GB10.out : Below w.heap.size w w32)); replace ak := am (hp_); clear hg hw hp_; obtain ⟨dV, dW, dX, dY⟩ := bxB af; obtain ⟨dZ, d0, d1, d2⟩ := bxB ag))
   refine bodyPost_ret (results_ct rfl _ _ an 25 #[.slice bv aq.length bw, .slice (some ⟨go10, 0, none⟩) al.length a_] (0, 0) _ rfl kBk Tryz.underlying25 rfl rfK) rfl ?_
   exact ⟨_, _, rfF, Kd.V_mono (Kd.R_V (by (with_reducible repeat (first | apply Kd.R_alloc | apply Kd.R_drewN | apply Kd.R_drew)); exact Kd.R_mono (Kd.R_far (p := ⟨an, 1, none⟩) (Kd.R_far (p := ⟨an, 0, none⟩) (Kd.R_types aj.out ag.out (by decide)) (fun _ hk => hk.2) (.slice bv aq.length bw)) (fun _ hk => hk.2) (.slice (some ⟨go10, 0, none⟩) al.length a_)) (fun _ hk => hk.1.1))) (fun k_ hk => by first | exact ⟨(.inr (hk.1)), hk.2⟩ | exact (.inr (hk))), Kd.V_mono (Kd.R_V (by (with_reducible repeat (first | apply Kd.R_alloc | apply Kd.R_drewN | apply Kd.R_drew)); exact Kd.R_mono (Kd.R_far (p := ⟨an, 1, none⟩) (Kd.R_far (p := ⟨an, 0, none⟩) (Kd.R_types ak.out ag.out (by decide)) (fun _ hk => hk.2) (.slice bv aq.length bw)) (fun _ hk => hk.2) (.slice (some ⟨go10, 0, none⟩) al.length a_)) (fun _ hk => hk.1))) (fun k_ hk => by first | exact ⟨(.inr (hk.1)), hk.2⟩ | exact (.inr (hk))), eTx HB.out⟩
  ·obtain ⟨bb, bS⟩ : ∃ y_ : List (S27), y_ = (([(⟨a1_0, a1_1⟩ : S27)] : List (S27))) := ⟨_, rfl⟩
   replace H : ((api_Node_23.f aq aE bb).bind fun aV => ((slices_Insert_string_string.f al aE (([a2] : List ByteArray))).bind fun a7 => (some (aV, a7, 0)))) = some (r1, r2, r3) := by first | (rw [bS]; with_reducible exact H) | (have H2_ := (Option.bind_some _ _).symm.trans H; rw [bS]; with_reducible exact H2_) | (have H2_ := (Option.bind_some _ _).symm.trans H; with_reducible exact H2_) | with_reducible exact H | (rw [bS]; exact H) | exact H
   have Ny281 := Aside0.mk bS
   clear bS
   replace H := bnd H; obtain ⟨aV, A35, H⟩ := H
   obtain ⟨bU, bV⟩ : ∃ y_ : List ByteArray, y_ = (([a2] : List ByteArray)) := ⟨_, rfl⟩
   replace H : ((slices_Insert_string_string.f al aE bU).bind fun a7 => (some (aV, a7, 0))) = some (r1, r2, r3) := by first | (rw [bV]; with_reducible exact H) | (have H2_ := (Option.bind_some _ _).symm.trans H; rw [bV]; with_reducible exact H2_) | (have H2_ := (Option.bind_some _ _).symm.trans H; with_reducible exact H2_) | with_reducible exact H | (rw [bV]; exact H) | exact H
   have Ny287 := Aside0.mk bV
   clear bV
   replace H := bnd H; obtain ⟨a7, A36, H⟩ := H
   simp only [Option.some.injEq, Prod.mk.injEq] at H
   obtain ⟨rfl, rfl, rfl⟩ := H
   go_enter Tryz.func7, Tryz.ntmps7
   try go_wp2_with (first | ((with_reducible refine gtD 3 ?_); refine xBx 3 25 #[.slice av l0_0.length aw, .slice ay l0_1.length az] ?_; intro ar hg w37 hbox hb; replace aa := am (Kd.V_below (Kd.V_elderB (vT aa.out) ar (Nat.le_of_eq hg.symm)) hb); replace ab := am (Kd.V_below (Kd.V_elderB (vT ab.out) ar (Nat.le_of_eq hg.symm)) hb); have ac := am (hbox); have cJ := am ((gTx hg HB.out)); have cK := am ((gTx hg HB.out)); replace HB := am (sTx HB.out hb); clear hb hbox hg) | ((with_reducible refine gtD 4 ?_); refine xBx 4 27 #[.string a1_0, .string a1_1] ?_; intro ai hg w38 hbox hb; replace aa := am (Kd.V_below (Kd.V_elderB (vT aa.out) ai (Nat.le_of_eq hg.symm)) hb); replace ab := am (Kd.V_below (Kd.V_elderB (vT ab.out) ai (Nat.le_of_eq hg.symm)) hb); have ad := am (hbox); have cL := am ((gTx hg HB.out)); have cM := am ((gTx hg HB.out)); have bc := am ((nT ac.out hg)); have be := am ((mT ac.out hg)); replace ac := am (bB ac.out hb); replace HB := am (sTx HB.out hb); clear hb hbox hg) | ((with_reducible refine gtD 6 ?_); refine xBx 6 25 #[.slice none 0 0, .slice none 0 0] ?_; intro an hg w39 hbox hb; replace aa := am (Kd.V_below (Kd.V_elderB (vT aa.out) an (Nat.le_of_eq hg.symm)) hb); replace ab := am (Kd.V_below (Kd.V_elderB (vT ab.out) an (Nat.le_of_eq hg.symm)) hb); have ag := am (hbox); have cN := am ((gTx hg HB.out)); have cO := am ((gTx hg HB.out)); have bf := am ((nT ac.out hg)); have bg := am ((mT ac.out hg)); have bh := am ((nT ad.out hg)); have bi := am ((mT ad.out hg)); replace ac := am (bB ac.out hb); replace ad := am (bB ad.out hb); replace HB := am (sTx HB.out hb); clear hb hbox hg; have dk := bc.out; have dl := be.out; have dm := bf.out; have dn := bg.out; obtain ⟨cn, co, cp, cq⟩ := bxB ac; have dp := bh.out; have dq := bi.out; obtain ⟨cr, ct, cu, cv⟩ := bxB ad) | ((with_reducible refine gtC 21 ?_); refine xCb 15 Tryz.func21 (store_find.calls k _ _ l0_0 _ _ l0_1 a1_0 a1_1 aE false bM _ (cW (Kd.V_reads' aa.out).2.2) ((Kd.V_reads' aa.out).2.1) (cW (Kd.V_reads' ab.out).2.2) ((Kd.V_reads' ab.out).2.1) A4.out) fun w45 hb => ?_; replace aa := am (vB aa.out hb); replace ab := am (vB ab.out hb); replace ac := am (bB ac.out hb); replace ad := am (bB ad.out hb); replace ag := am (bB ag.out hb); replace HB := am (sTx HB.out hb); obtain ⟨cw, cx, cy, cz⟩ := bxB ac) | ((with_reducible refine gtC 22 ?_); refine xCl 24 Tryz.func22 (store_own.calls _ _ l0_0 _ _ l0_1 aq al _ (cW (Kd.V_reads' aa.out).2.2) ((Kd.V_reads' aa.out).2.1) (cW (Kd.V_reads' ab.out).2.2) ((Kd.V_reads' ab.out).2.1) A6.out) ?_; rintro e w47 ⟨fo, fp, rfl, ho0, ho1, hb⟩; refine ⟨_, rfl, ?_⟩; replace aa := am (Kd.V_mono (Kd.V_told (Kd.V_told (Kd.V_old (vT aa.out) hb) (Kd.R_base ho0)) (Kd.R_base ho1)) (fun _ h_ => h_.1)); replace ab := am (Kd.V_mono (Kd.V_told (Kd.V_told (Kd.V_old (vT ab.out) hb) (Kd.R_base ho0)) (Kd.R_base ho1)) (fun _ h_ => h_.1)); have aj := am (Kd.R_lower (Kd.R_newB (Kd.R_newM (M := fun k_ => (w.heap.size ≤ k_)) ho0 (below_size (eTx HB.out)) (fun k_ h_ => h_)) (g := ai) (o := .cells #[.string a1_0, .string a1_1] 27 (0, 0)) (bT ad.out)) (below_size (eTx HB.out))); have ak := am (Kd.R_lower (Kd.R_newM (M := fun k_ => (w.heap.size ≤ k_)) ho1 (below_size (eTx HB.out)) (fun k_ h_ => h_)) (below_size (eTx HB.out))); replace ac := am (bB ac.out hb); replace ag := am (bB ag.out hb); replace ad := am (bB ad.out hb); replace HB := am (sTx HB.out hb)) | ((with_reducible refine gtD 11 ?_); refine xBx 11 25 #[.slice none 0 0, .slice none 0 0] ?_; intro ae hg w48 hbox hb; replace aa := am (Kd.V_below (Kd.V_elderB (vT aa.out) ae (Nat.le_of_eq hg.symm)) hb); replace ab := am (Kd.V_below (Kd.V_elderB (vT ab.out) ae (Nat.le_of_eq hg.symm)) hb); replace aj := am (rB aj.out hb); replace ak := am (rB ak.out hb); have af := am (hbox); have dd := am ((gTx hg HB.out)); have de := am ((gTx hg HB.out)); have aI := am ((nT ac.out hg)); have bj := am ((mT ac.out hg)); have aJ := am ((nT ad.out hg)); have bk := am ((mT ad.out hg)); have aF := am ((nT ag.out hg)); have bl := am ((mT ag.out hg)); replace ac := am (bB ac.out hb); replace ad := am (bB ad.out hb); replace ag := am (bB ag.out hb); replace HB := am (sTx HB.out hb); clear hb hbox hg; obtain ⟨aK, aL, fu⟩ := Kd.R_slice aj.out; subst fu; have fQ := bj.out; have fR := aI.out; have dr := bk.out; have dt := aJ.out; have du := bl.out; have dv := aF.out; obtain ⟨cA, cB, cC, cD⟩ := bxB af; obtain ⟨aC, aD, fv⟩ := Kd.R_slice ak.out; subst fv))
   obtain ⟨w55, hW_⟩ : ∃ W_, ((w48.setCell ⟨ae, 0, none⟩ (.slice aK aq.length aL)).setCell ⟨ae, 1, none⟩ (.slice aC al.length aD)) = W_ := ⟨_, rfl⟩
   have n0_ : Aside0 (Kd.V k27 27 w55 w.heap.size (fun k_ => ((P0_0_ k_ ∨ P0_1_ k_) ∨ w.heap.size ≤ k_) ∧ some k_ ≠ (.slice aK aq.length aL : Value).ownBlock ∧ some k_ ≠ (.slice aC al.length aD : Value).ownBlock ∧ k_ ≠ ar ∧ k_ ≠ ai ∧ k_ ≠ an ∧ k_ ≠ ae) (.slice av l0_0.length aw) l0_0) := ⟨by rw [← hW_]; (with_reducible repeat (first | apply Kd.V_alloc | apply Kd.V_drewN | apply Kd.V_drew)); exact Kd.V_mono (Kd.V_far (p := ⟨ae, 1, none⟩) (Kd.V_far (p := ⟨ae, 0, none⟩) (Kd.V_mono aa.out (fun k_ hk => (⟨hk, hk.2⟩ : _ ∧ k_ ≠ ae))) (fun _ hk => hk.2) (.slice aK aq.length aL)) (fun _ hk => hk.2) (.slice aC al.length aD)) (fun _ hk => ⟨hk.1.1.1.1.1.1.1, ⟨hk.1.1.1.2, ⟨hk.1.1.2, ⟨hk.1.1.1.1.1.1.2, ⟨hk.1.1.1.1.1.2, ⟨hk.1.1.1.1.2, hk.1.2⟩⟩⟩⟩⟩⟩)⟩
   have n1_ : Aside0 (Kd.V Kd.string 9 w55 w.heap.size (fun k_ => ((P0_0_ k_ ∨ P0_1_ k_) ∨ w.heap.size ≤ k_) ∧ some k_ ≠ (.slice aK aq.length aL : Value).ownBlock ∧ some k_ ≠ (.slice aC al.length aD : Value).ownBlock ∧ k_ ≠ ar ∧ k_ ≠ ai ∧ k_ ≠ an ∧ k_ ≠ ae) (.slice ay l0_1.length az) l0_1) := ⟨by rw [← hW_]; (with_reducible repeat (first | apply Kd.V_alloc | apply Kd.V_drewN | apply Kd.V_drew)); exact Kd.V_mono (Kd.V_far (p := ⟨ae, 1, none⟩) (Kd.V_far (p := ⟨ae, 0, none⟩) (Kd.V_mono ab.out (fun k_ hk => (⟨hk, hk.2⟩ : _ ∧ k_ ≠ ae))) (fun _ hk => hk.2) (.slice aK aq.length aL)) (fun _ hk => hk.2) (.slice aC al.length aD)) (fun _ hk => ⟨hk.1.1.1.1.1.1.1, ⟨hk.1.1.1.2, ⟨hk.1.1.2, ⟨hk.1.1.1.1.1.1.2, ⟨hk.1.1.1.1.1.2, ⟨hk.1.1.1.1.2, hk.1.2⟩⟩⟩⟩⟩⟩)⟩
   have n2_ : Aside0 (Kd.R k27 27 w55 w.heap.size (fun k_ => (w.heap.size ≤ k_) ∧ k_ ≠ ai) (.slice aK aq.length aL) aq) := ⟨by rw [← hW_]; (with_reducible repeat (first | apply Kd.R_alloc | apply Kd.R_drewN | apply Kd.R_drew)); exact Kd.R_mono (Kd.R_far (p := ⟨ae, 1, none⟩) (Kd.R_far (p := ⟨ae, 0, none⟩) (Kd.R_types aj.out af.out (by decide)) (fun _ hk => hk.2) (.slice aK aq.length aL)) (fun _ hk => hk.2) (.slice aC al.length aD)) (fun _ hk => ⟨hk.1.1.1, hk.1.2⟩)⟩
   have n3_ : Aside0 (Kd.R Kd.string 9 w55 w.heap.size (fun k_ => (w.heap.size ≤ k_)) (.slice aC al.length aD) al) := ⟨by rw [← hW_]; (with_reducible repeat (first | apply Kd.R_alloc | apply Kd.R_drewN | apply Kd.R_drew)); exact Kd.R_mono (Kd.R_far (p := ⟨ae, 1, none⟩) (Kd.R_far (p := ⟨ae, 0, none⟩) (Kd.R_types ak.out af.out (by decide)) (fun _ hk => hk.2) (.slice aK aq.length aL)) (fun _ hk => hk.2) (.slice aC al.length aD)) (fun _ hk => hk.1.1)⟩
   have n4_ : Aside0 (w55.heap[ar]? = some (.cells #[.slice av l0_0.length aw, .slice ay l0_1.length az] 25 (0, 0))) := ⟨by rw [← hW_]; exact kBk⟩
   have n5_ : Aside0 (w55.heap[ai]? = some (.cells #[.string a1_0, .string a1_1] 27 (0, 0))) := ⟨by rw [← hW_]; exact kBk⟩
   have n6_ : Aside0 (w55.heap[an]? = some (.cells #[.slice none 0 0, .slice none 0 0] 25 (0, 0))) := ⟨by rw [← hW_]; exact kBk⟩
   have n7_ : Aside0 (w55.heap[ae]? = some (.cells #[.slice aK aq.length aL, .slice aC al.length aD] 25 (0, 0))) := ⟨by rw [← hW_]; exact kBk⟩
   have n8_ : Aside0 (Below w.heap.size w w55) := ⟨by rw [← hW_]; exact eTx HB.out⟩
   rw [hW_]
   clear hW_
   have aa := n0_
   have ab := n1_
   have aj := n2_
   have ak := n3_
   have ac := n4_
   have ad := n5_
   have ag := n6_
   have af := n7_
   have HB := n8_
   clear n0_ n1_ n2_ n3_ n4_ n5_ n6_ n7_ n8_
   replace aa := am (Kd.V_drew aa.out)
   replace ab := am (Kd.V_drew ab.out)
   replace aj := am (Kd.R_drew aj.out)
   replace ak := am (Kd.R_drew ak.out)
   replace ac := am (blk_drew ac.out)
   replace ad := am (blk_drew ad.out)
   replace ag := am (blk_drew ag.out)
   replace af := am (blk_drew af.out)
   replace HB := am (below_drew1 HB.out)
   refine start_ (n := 16) (S := fun w' => w'.cell? ⟨ae, 0, none⟩ = some (.slice aK aq.length aL) ∧ w'.cell? ⟨ae, 1, none⟩ = some (.slice aC al.length aD) ∧ w'.cell? ⟨ai, 0, none⟩ = some (.string a1_0) ∧ w'.cell? ⟨ai, 1, none⟩ = some (.string a1_1)) (ds := [13, 15]) (bA 16 0) rfK rfl rfK ⟨cT af 0, cT af 1, cT ad 0, cT ad 1⟩ (fun hHeld => ?_); refine with_tabW store_Put.tab8 store_Put.bits8 (fun HT_ HW_ => ?_)
   generalize w55.drew = w56 at aa ab aj ak ac ad ag af HB hHeld ⊢
   refine pT 0 32 (bA 16 1) HT_.out ?_
   refine pT 2 34 (bA 16 5) HT_.out ?_
   refine pT 6 38 (bA 16 69) HT_.out ?_
   refine pT 8 40 (bA 16 325) HT_.out ?_
   refine pT 9 41 (bA 16 837) HT_.out ?_
   refine tT 1 33 (bA 16 839) HT_.out HW_.out hHeld ?_ (hy := by rintro w' ⟨s0, s1, s2, s3⟩; go_simp; with_reducible rfl)
   refine tT 3 35 (bA 16 847) HT_.out HW_.out hHeld ?_ (hy := by rintro w' ⟨s0, s1, s2, s3⟩; go_simp; with_reducible rfl)
   refine tT 7 39 (bA 16 975) HT_.out HW_.out hHeld ?_ (hy := by rintro w' ⟨s0, s1, s2, s3⟩; go_simp; with_reducible rfl)
   refine join_ (σ := Value × Value × Value) 4 (bA 16 6143) (fun s_ => [(36, s_.1), (37, s_.2.1), (42, s_.2.2), (44, .pointer (some ⟨ae, 0, none⟩))]) (fun s_ w' => (w'.cell? ⟨ae, 0, none⟩ = some (.slice aK aq.length aL) ∧ w'.cell? ⟨ae, 1, none⟩ = some (.slice aC al.length aD) ∧ w'.cell? ⟨ai, 0, none⟩ = some (.string a1_0) ∧ w'.cell? ⟨ai, 1, none⟩ = some (.string a1_1)) ∧ (Kd.V k27 27 w' w.heap.size (fun k_ => ((P0_0_ k_ ∨ P0_1_ k_) ∨ w.heap.size ≤ k_) ∧ some k_ ≠ (.slice aC al.length aD : Value).ownBlock ∧ some k_ ≠ (s_.1 : Value).ownBlock ∧ some k_ ≠ (s_.2.1 : Value).ownBlock ∧ some k_ ≠ (s_.2.2 : Value).ownBlock ∧ k_ ≠ ar ∧ k_ ≠ ai ∧ k_ ≠ an ∧ k_ ≠ ae) (.slice av l0_0.length aw) l0_0) ∧ (Kd.V Kd.string 9 w' w.heap.size (fun k_ => ((P0_0_ k_ ∨ P0_1_ k_) ∨ w.heap.size ≤ k_) ∧ some k_ ≠ (.slice aC al.length aD : Value).ownBlock ∧ some k_ ≠ (s_.1 : Value).ownBlock ∧ some k_ ≠ (s_.2.1 : Value).ownBlock ∧ some k_ ≠ (s_.2.2 : Value).ownBlock ∧ k_ ≠ ar ∧ k_ ≠ ai ∧ k_ ≠ an ∧ k_ ≠ ae) (.slice ay l0_1.length az) l0_1) ∧ (Kd.R Kd.string 9 w' w.heap.size (fun k_ => (w.heap.size ≤ k_) ∧ some k_ ≠ (s_.2.2 : Value).ownBlock) (.slice aC al.length aD) al) ∧ (Kd.R k27 27 w' w.heap.size (fun k_ => (w.heap.size ≤ k_) ∧ some k_ ≠ (s_.2.1 : Value).ownBlock ∧ k_ ≠ ai) s_.1 bb) ∧ (Kd.R k27 27 w' w.heap.size (fun k_ => (w.heap.size ≤ k_) ∧ some k_ ≠ (s_.1 : Value).ownBlock ∧ k_ ≠ ai) s_.2.1 aV) ∧ (Kd.R Kd.string 9 w' w.heap.size (fun k_ => (w.heap.size ≤ k_) ∧ some k_ ≠ (.slice aC al.length aD : Value).ownBlock) s_.2.2 bU) ∧ (w'.heap[ar]? = some (.cells #[.slice av l0_0.length aw, .slice ay l0_1.length az] 25 (0, 0))) ∧ (w'.heap[ai]? = some (.cells #[.string a1_0, .string a1_1] 27 (0, 0))) ∧ (w'.heap[an]? = some (.cells #[.slice none 0 0, .slice none 0 0] 25 (0, 0))) ∧ (w'.heap[ae]? = some (.cells #[.slice aK aq.length aL, .slice aC al.length aD] 25 (0, 0))) ∧ (Below w.heap.size w w')) ?_ ?_
   rotate_left
   ·intro hCont
    refine dT (some 36) (some 42) 4 10 (bA 16 991) (bA 16 1999) HT_.out (fun K hK => ?_) (fun K hK => ?_)
    ·skip
     refine Kd.R_lit_step k27 _ 27 ?hg (N := 36) ?hd (xs := ([(⟨a1_0, a1_1⟩ : S27)] : List (S27))) (inner := [.string a1_0, .string a1_1]) (ok := fun _ => True) (okp := fun _ => True) ?hr ?hp (fun _ hk => hk) trivial (Below.refl _ _) (Nat.le_refl _) (by simp) ?_; (case hd => rfl); (case hg => rfl); (case hr => first | (go_simp; done) | (go_simp; rfl)); (case hp => exact (Reps.c2 (show Kd.M k27 _ _ _ (⟨a1_0, a1_1⟩ : S27) [.string a1_0, .string a1_1] from (k27_mkM _ _ _ (⟨a1_0, a1_1⟩ : S27) )) (Reps.none _ _)))
     intro bQ w57 ho58 hb hg_ hnew_
     clear hg_ hnew_
     (first | rw [← Ny281.out] at ho58 | (simp only [Int.reduceToNat] at ho58; rw [← Ny281.out] at ho58))
     replace aa := am (Kd.V_elder' (vT aa.out) (Kd.R_base ho58) hb)
     replace ab := am (Kd.V_elder' (vT ab.out) (Kd.R_base ho58) hb)
     replace ak := am (rB ak.out hb)
     have aB := am (Kd.R_lower (Kd.R_newB (Kd.R_new' (Kd.R_newM (M := fun k_ => (w.heap.size ≤ k_)) ho58 (below_size (eTx HB.out)) (fun k_ h_ => h_)) (Kd.R_lt (rT aj.out))) (g := ai) (o := .cells #[.string a1_0, .string a1_1] 27 (0, 0)) (bT ad.out)) (below_size (eTx HB.out)))
     replace ac := am (bB ac.out hb)
     replace ag := am (bB ag.out hb)
     replace af := am (bB af.out hb)
     replace aj := am (Kd.R_elder' (rT aj.out) (Kd.R_base ho58) hb)
     replace ad := am (bB ad.out hb)
     replace HB := am (sTx HB.out hb)
     clear hb ho58
     obtain ⟨b7, b8, dw⟩ := Kd.R_slice aB.out
     (first | subst dw | (injection dw with f1_ f2_ f3_; have f4_ := f1_.symm; have f5_ := f3_.symm; clear f1_ f2_ f3_; subst f4_; subst f5_))
     refine hK.out _ _ ⟨cT af 0, cT af 1, cT ad 0, cT ad 1⟩ (fun hHeld => ?_)
     clear hK K
     refine mN 36 ?_
     refine dT (some 37) (some 42) 5 10 (bA 16 1023) (bA 16 2015) HT_.out (fun K hK => ?_) (fun K hK => ?_)
     ·skip
      refine gS Tryz.func23 #[.slice aK aq.length aL, .int .i64 aE, .slice b7 bb.length b8] ?_
      with_reducible refine (api_Node_23.calls (fun k_ => some k_ = (.slice aK aq.length aL : Value).ownBlock) (.slice aK aq.length aL) aq aE _ _ bb aV w _ ?side1 (Kd.R_tight rfl aj.out) ?side3 ((Kd.R_reads' aB.out).2.1) A35.out).mono ?_
      (case side1 => repeat (first | (with_reducible first | exact HB.out | apply pA | apply pN | apply pD | refine eU ?_ (by assumption)) | exact HB.out))
      (case side3 => exact Kd.C_kept_own (aB.out) (fun k_ hk_ hs_ => (hk_.1.2) hs_))
      rintro e w60 ⟨a8, rfl, ho0, hb, hkp⟩
      refine ⟨_, rfl, ?_⟩
      replace aa := am (Kd.V_mono (ok' := fun k_ => ((P0_0_ k_ ∨ P0_1_ k_) ∨ w.heap.size ≤ k_) ∧ some k_ ≠ (.slice aC al.length aD : Value).ownBlock ∧ some k_ ≠ (.slice b7 bb.length b8 : Value).ownBlock ∧ k_ ≠ ar ∧ k_ ≠ ai ∧ k_ ≠ an ∧ k_ ≠ ae ∧ some k_ ≠ (a8 : Value).ownBlock) (Kd.V_keptB (aa.out) hkp (fun k_ hk_ hs_ => (hk_.1.2.1) hs_)) (fun k_ hk_ => ⟨hk_.1.1.1, hk_.1.1.2.2.1, hk_.1.2, hk_.1.1.2.2.2.1, hk_.1.1.2.2.2.2.1, hk_.1.1.2.2.2.2.2.1, hk_.1.1.2.2.2.2.2.2, fun e_ => Or.elim (ho0.1 k_ e_.symm) (fun hs_ => hk_.2.1 hs_) (fun hn_ => Nat.not_le.2 hk_.2.2 hn_)⟩))
      replace ab := am (Kd.V_mono (ok' := fun k_ => ((P0_0_ k_ ∨ P0_1_ k_) ∨ w.heap.size ≤ k_) ∧ some k_ ≠ (.slice aC al.length aD : Value).ownBlock ∧ some k_ ≠ (.slice b7 bb.length b8 : Value).ownBlock ∧ k_ ≠ ar ∧ k_ ≠ ai ∧ k_ ≠ an ∧ k_ ≠ ae ∧ some k_ ≠ (a8 : Value).ownBlock) (Kd.V_keptB (ab.out) hkp (fun k_ hk_ hs_ => (hk_.1.2.1) hs_)) (fun k_ hk_ => ⟨hk_.1.1.1, hk_.1.1.2.2.1, hk_.1.2, hk_.1.1.2.2.2.1, hk_.1.1.2.2.2.2.1, hk_.1.1.2.2.2.2.2.1, hk_.1.1.2.2.2.2.2.2, fun e_ => Or.elim (ho0.1 k_ e_.symm) (fun hs_ => hk_.2.1 hs_) (fun hn_ => Nat.not_le.2 hk_.2.2 hn_)⟩))
      replace ac := am (blk_kept (bT ac.out) hkp (fun hs_ => (fun e_ => (Kd.R_ne aj.out ac.out (by decide)) e_) hs_))
      replace ag := am (blk_kept (bT ag.out) hkp (fun hs_ => (fun e_ => (Kd.R_ne aj.out ag.out (by decide)) e_) hs_))
      replace ak := am (Kd.R_mono (ok' := fun k_ => (w.heap.size ≤ k_)) (Kd.R_keptB ((Kd.R_apart' ak.out (Kd.R_typed aj.out) (by decide))) hkp (fun k_ hk_ hs_ => (hk_.2) hs_)) (fun k_ hk_ => hk_.1.1))
      replace af := am (blk_kept (bT af.out) hkp (fun hs_ => (fun e_ => (Kd.R_ne aj.out af.out (by decide)) e_) hs_))
      have bC := am (Kd.R_mono (ok' := fun k_ => (w.heap.size ≤ k_) ∧ some k_ ≠ (.slice b7 bb.length b8 : Value).ownBlock ∧ k_ ≠ ai) ho0 (fun k_ hk_ => ⟨Or.elim hk_ (fun hs_ => (aj.out.1 k_ (hs_).symm).1.1) (fun hn_ => (Nat.le_trans (below_size (eTx HB.out)) hn_)), Or.elim hk_ (fun hs_ => fun e_ => (((aB.out).1 k_ e_.symm).1.2) hs_) (fun hn_ => (Kd.fresh' (Kd.R_lt (rT aB.out)) k_ hn_)), Or.elim hk_ (fun hs_ => fun e_ => (Kd.R_away aj.out (fun _ hk => hk.1.2)) (by rw [← e_]; exact hs_)) (fun hn_ => (Kd.freshB (g := ai) (o := .cells #[.string a1_0, .string a1_1] 27 (0, 0)) (bT ad.out) k_ hn_))⟩))
      replace ad := am (blk_kept (bT ad.out) hkp (fun hs_ => (fun e_ => (Kd.R_away aj.out (fun _ hk => hk.1.2)) e_) hs_))
      replace aB := am (Kd.R_mono (ok' := fun k_ => (w.heap.size ≤ k_) ∧ k_ ≠ ai ∧ some k_ ≠ (a8 : Value).ownBlock) (Kd.R_keptB (aB.out) hkp (fun k_ hk_ hs_ => (hk_.1.2) hs_)) (fun k_ hk_ => ⟨hk_.1.1.1.1, hk_.1.2, fun e_ => Or.elim (ho0.1 k_ e_.symm) (fun hs_ => hk_.2.1 hs_) (fun hn_ => Nat.not_le.2 hk_.2.2 hn_)⟩))
      replace HB := am (hb)
      clear aj
      refine hK.out _ _ ⟨cT af 0, cT af 1, cT ad 0, cT ad 1⟩ (fun hHeld => ?_)
      clear hK K
      refine mN 37 ?_
      refine pT 12 44 (bA 16 5119) HT_.out ?_
      refine oT 10 (bA 16 6143) HT_.out fun K hK => ?_
      refine Kd.R_lit_step Kd.string _ 9 ?hg (N := 42) ?hd (xs := ([a2] : List ByteArray)) (inner := [.string a2]) (ok := fun _ => True) (okp := fun _ => True) ?hr ?hp (fun _ hk => hk) trivial (Below.refl _ _) (Nat.le_refl _) (by simp) ?_; (case hd => rfl); (case hg => rfl); (case hr => first | (go_simp; done) | (go_simp; rfl)); (case hp => exact (Reps.one (show Kd.M Kd.string _ _ _ a2 [.string a2] from rfl) (Reps.none _ _)))
      intro bE w61 ho62 hb hg_ hnew_
      clear hg_ hnew_
      (first | rw [← Ny287.out] at ho62 | (simp only [Int.reduceToNat] at ho62; rw [← Ny287.out] at ho62))
      replace aa := am (Kd.V_elder' (vT aa.out) (Kd.R_base ho62) hb)
      replace ab := am (Kd.V_elder' (vT ab.out) (Kd.R_base ho62) hb)
      replace aB := am (rB aB.out hb)
      replace bC := am (rB bC.out hb)
      have aN := am (Kd.R_lower (Kd.R_new' (Kd.R_newM (M := fun k_ => (w.heap.size ≤ k_)) ho62 (below_size (eTx HB.out)) (fun k_ h_ => h_)) (Kd.R_lt (rT ak.out))) (below_size (eTx HB.out)))
      replace ac := am (bB ac.out hb)
      replace ad := am (bB ad.out hb)
      replace ag := am (bB ag.out hb)
      replace af := am (bB af.out hb)
      replace ak := am (Kd.R_elder' (rT ak.out) (Kd.R_base ho62) hb)
      replace HB := am (sTx HB.out hb)
      clear hb ho62
      refine hK.out _ _ ⟨cT af 0, cT af 1, cT ad 0, cT ad 1⟩ (fun hHeld => ?_)
      clear hK K
      refine mN 42 ?_
      exact norm_ rfQ (hCont (.slice b7 bb.length b8, a8, bE) _ ⟨hHeld, (by (with_reducible repeat (first | apply Kd.V_alloc | apply Kd.V_drewN | apply Kd.V_drew)); exact Kd.V_mono aa.out (fun _ hk => ⟨hk.1.1, ⟨hk.1.2.1, ⟨hk.1.2.2.1, ⟨hk.1.2.2.2.2.2.2.2, ⟨hk.2, ⟨hk.1.2.2.2.1, ⟨hk.1.2.2.2.2.1, ⟨hk.1.2.2.2.2.2.1, hk.1.2.2.2.2.2.2.1⟩⟩⟩⟩⟩⟩⟩⟩)), (by (with_reducible repeat (first | apply Kd.V_alloc | apply Kd.V_drewN | apply Kd.V_drew)); exact Kd.V_mono ab.out (fun _ hk => ⟨hk.1.1, ⟨hk.1.2.1, ⟨hk.1.2.2.1, ⟨hk.1.2.2.2.2.2.2.2, ⟨hk.2, ⟨hk.1.2.2.2.1, ⟨hk.1.2.2.2.2.1, ⟨hk.1.2.2.2.2.2.1, hk.1.2.2.2.2.2.2.1⟩⟩⟩⟩⟩⟩⟩⟩)), (rT ak.out), (by (with_reducible repeat (first | apply Kd.R_alloc | apply Kd.R_drewN | apply Kd.R_drew)); exact Kd.R_mono aB.out (fun _ hk => ⟨hk.1, ⟨hk.2.2, hk.2.1⟩⟩)), (rT bC.out), (by (with_reducible repeat (first | apply Kd.R_alloc | apply Kd.R_drewN | apply Kd.R_drew)); exact Kd.R_mono aN.out (fun _ hk => ⟨hk.1.1, hk.2⟩)), (bT ac.out), (bT ad.out), (bT ag.out), (bT af.out), (eTx HB.out)⟩)
     ·skip
      refine Kd.R_lit_step Kd.string _ 9 ?hg (N := 42) ?hd (xs := ([a2] : List ByteArray)) (inner := [.string a2]) (ok := fun _ => True) (okp := fun _ => True) ?hr ?hp (fun _ hk => hk) trivial (Below.refl _ _) (Nat.le_refl _) (by simp) ?_; (case hd => rfl); (case hg => rfl); (case hr => first | (go_simp; done) | (go_simp; rfl)); (case hp => exact (Reps.one (show Kd.M Kd.string _ _ _ a2 [.string a2] from rfl) (Reps.none _ _)))
      intro bE w59 ho60 hb hg_ hnew_
      clear hg_ hnew_
      (first | rw [← Ny287.out] at ho60 | (simp only [Int.reduceToNat] at ho60; rw [← Ny287.out] at ho60))
      replace aa := am (Kd.V_elder' (vT aa.out) (Kd.R_base ho60) hb)
      replace ab := am (Kd.V_elder' (vT ab.out) (Kd.R_base ho60) hb)
      replace aj := am (rB aj.out hb)
      replace aB := am (rB aB.out hb)
      have aN := am (Kd.R_lower (Kd.R_new' (Kd.R_newM (M := fun k_ => (w.heap.size ≤ k_)) ho60 (below_size (eTx HB.out)) (fun k_ h_ => h_)) (Kd.R_lt (rT ak.out))) (below_size (eTx HB.out)))
      replace ac := am (bB ac.out hb)
      replace ad := am (bB ad.out hb)
      replace ag := am (bB ag.out hb)
      replace af := am (bB af.out hb)
      replace ak := am (Kd.R_elder' (rT ak.out) (Kd.R_base ho60) hb)
      replace HB := am (sTx HB.out hb)
      clear hb ho60
      obtain ⟨bK, bL, b9⟩ := Kd.R_slice aB.out
      (first | subst b9 | (injection b9 with f1_ f2_ f3_; have f4_ := f1_.symm; have f5_ := f3_.symm; clear f1_ f2_ f3_; subst f4_; subst f5_))
      refine hK.out _ _ ⟨cT af 0, cT af 1, cT ad 0, cT ad 1⟩ (fun hHeld => ?_)
      clear hK K
      refine mN 42 ?_
      refine oT 5 (bA 16 2047) HT_.out fun K hK => ?_
      refine gS Tryz.func23 #[.slice aK aq.length aL, .int .i64 aE, .slice bK bb.length bL] ?_
      with_reducible refine (api_Node_23.calls (fun k_ => some k_ = (.slice aK aq.length aL : Value).ownBlock) (.slice aK aq.length aL) aq aE _ _ bb aV w _ ?side1 (Kd.R_tight rfl aj.out) ?side3 ((Kd.R_reads' aB.out).2.1) A35.out).mono ?_
      (case side1 => repeat (first | (with_reducible first | exact HB.out | apply pA | apply pN | apply pD | refine eU ?_ (by assumption)) | exact HB.out))
      (case side3 => exact Kd.C_kept_own (aB.out) (fun k_ hk_ hs_ => (hk_.1.2) hs_))
      rintro e w62 ⟨a8, rfl, ho0, hb, hkp⟩
      refine ⟨_, rfl, ?_⟩
      replace aa := am (Kd.V_mono (ok' := fun k_ => ((P0_0_ k_ ∨ P0_1_ k_) ∨ w.heap.size ≤ k_) ∧ some k_ ≠ (.slice aC al.length aD : Value).ownBlock ∧ some k_ ≠ (.slice bK bb.length bL : Value).ownBlock ∧ some k_ ≠ (bE : Value).ownBlock ∧ k_ ≠ ar ∧ k_ ≠ ai ∧ k_ ≠ an ∧ k_ ≠ ae ∧ some k_ ≠ (a8 : Value).ownBlock) (Kd.V_keptB (aa.out) hkp (fun k_ hk_ hs_ => (hk_.1.1.2.1) hs_)) (fun k_ hk_ => ⟨hk_.1.1.1.1, hk_.1.1.1.2.2.1, hk_.1.1.2, hk_.1.2, hk_.1.1.1.2.2.2.1, hk_.1.1.1.2.2.2.2.1, hk_.1.1.1.2.2.2.2.2.1, hk_.1.1.1.2.2.2.2.2.2, fun e_ => Or.elim (ho0.1 k_ e_.symm) (fun hs_ => hk_.2.1 hs_) (fun hn_ => Nat.not_le.2 hk_.2.2 hn_)⟩))
      replace ab := am (Kd.V_mono (ok' := fun k_ => ((P0_0_ k_ ∨ P0_1_ k_) ∨ w.heap.size ≤ k_) ∧ some k_ ≠ (.slice aC al.length aD : Value).ownBlock ∧ some k_ ≠ (.slice bK bb.length bL : Value).ownBlock ∧ some k_ ≠ (bE : Value).ownBlock ∧ k_ ≠ ar ∧ k_ ≠ ai ∧ k_ ≠ an ∧ k_ ≠ ae ∧ some k_ ≠ (a8 : Value).ownBlock) (Kd.V_keptB (ab.out) hkp (fun k_ hk_ hs_ => (hk_.1.1.2.1) hs_)) (fun k_ hk_ => ⟨hk_.1.1.1.1, hk_.1.1.1.2.2.1, hk_.1.1.2, hk_.1.2, hk_.1.1.1.2.2.2.1, hk_.1.1.1.2.2.2.2.1, hk_.1.1.1.2.2.2.2.2.1, hk_.1.1.1.2.2.2.2.2.2, fun e_ => Or.elim (ho0.1 k_ e_.symm) (fun hs_ => hk_.2.1 hs_) (fun hn_ => Nat.not_le.2 hk_.2.2 hn_)⟩))
      replace ac := am (blk_kept (bT ac.out) hkp (fun hs_ => (fun e_ => (Kd.R_ne aj.out ac.out (by decide)) e_) hs_))
      replace ag := am (blk_kept (bT ag.out) hkp (fun hs_ => (fun e_ => (Kd.R_ne aj.out ag.out (by decide)) e_) hs_))
      replace ak := am (Kd.R_mono (ok' := fun k_ => (w.heap.size ≤ k_) ∧ some k_ ≠ (bE : Value).ownBlock) (Kd.R_keptB ((Kd.R_apart' ak.out (Kd.R_typed aj.out) (by decide))) hkp (fun k_ hk_ hs_ => (hk_.2) hs_)) (fun k_ hk_ => ⟨hk_.1.1.1, hk_.1.1.2⟩))
      replace af := am (blk_kept (bT af.out) hkp (fun hs_ => (fun e_ => (Kd.R_ne aj.out af.out (by decide)) e_) hs_))
      replace aN := am (Kd.R_mono (ok' := fun k_ => (w.heap.size ≤ k_) ∧ some k_ ≠ (.slice aC al.length aD : Value).ownBlock) (Kd.R_keptB ((Kd.R_apart' aN.out (Kd.R_typed aj.out) (by decide))) hkp (fun k_ hk_ hs_ => (hk_.2) hs_)) (fun k_ hk_ => ⟨hk_.1.1.1.1, hk_.1.1.2⟩))
      have bC := am (Kd.R_mono (ok' := fun k_ => (w.heap.size ≤ k_) ∧ some k_ ≠ (.slice bK bb.length bL : Value).ownBlock ∧ k_ ≠ ai) ho0 (fun k_ hk_ => ⟨Or.elim hk_ (fun hs_ => (aj.out.1 k_ (hs_).symm).1.1) (fun hn_ => (Nat.le_trans (below_size (eTx HB.out)) hn_)), Or.elim hk_ (fun hs_ => fun e_ => (((aB.out).1 k_ e_.symm).1.2) hs_) (fun hn_ => (Kd.fresh' (Kd.R_lt (rT aB.out)) k_ hn_)), Or.elim hk_ (fun hs_ => fun e_ => (Kd.R_away aj.out (fun _ hk => hk.1.2)) (by rw [← e_]; exact hs_)) (fun hn_ => (Kd.freshB (g := ai) (o := .cells #[.string a1_0, .string a1_1] 27 (0, 0)) (bT ad.out) k_ hn_))⟩))
      replace ad := am (blk_kept (bT ad.out) hkp (fun hs_ => (fun e_ => (Kd.R_away aj.out (fun _ hk => hk.1.2)) e_) hs_))
      replace aB := am (Kd.R_mono (ok' := fun k_ => (w.heap.size ≤ k_) ∧ k_ ≠ ai ∧ some k_ ≠ (a8 : Value).ownBlock) (Kd.R_keptB (aB.out) hkp (fun k_ hk_ hs_ => (hk_.1.2) hs_)) (fun k_ hk_ => ⟨hk_.1.1.1.1, hk_.1.2, fun e_ => Or.elim (ho0.1 k_ e_.symm) (fun hs_ => hk_.2.1 hs_) (fun hn_ => Nat.not_le.2 hk_.2.2 hn_)⟩))
      replace HB := am (hb)
      clear aj
      refine hK.out _ _ ⟨cT af 0, cT af 1, cT ad 0, cT ad 1⟩ (fun hHeld => ?_)
      clear hK K
      refine mN 37 ?_
      refine pT 12 44 (bA 16 6143) HT_.out ?_
      exact norm_ rfQ (hCont (.slice bK bb.length bL, a8, bE) _ ⟨hHeld, (by (with_reducible repeat (first | apply Kd.V_alloc | apply Kd.V_drewN | apply Kd.V_drew)); exact Kd.V_mono aa.out (fun _ hk => ⟨hk.1, ⟨hk.2.1, ⟨hk.2.2.1, ⟨hk.2.2.2.2.2.2.2.2, ⟨hk.2.2.2.1, ⟨hk.2.2.2.2.1, ⟨hk.2.2.2.2.2.1, ⟨hk.2.2.2.2.2.2.1, hk.2.2.2.2.2.2.2.1⟩⟩⟩⟩⟩⟩⟩⟩)), (by (with_reducible repeat (first | apply Kd.V_alloc | apply Kd.V_drewN | apply Kd.V_drew)); exact Kd.V_mono ab.out (fun _ hk => ⟨hk.1, ⟨hk.2.1, ⟨hk.2.2.1, ⟨hk.2.2.2.2.2.2.2.2, ⟨hk.2.2.2.1, ⟨hk.2.2.2.2.1, ⟨hk.2.2.2.2.2.1, ⟨hk.2.2.2.2.2.2.1, hk.2.2.2.2.2.2.2.1⟩⟩⟩⟩⟩⟩⟩⟩)), (rT ak.out), (by (with_reducible repeat (first | apply Kd.R_alloc | apply Kd.R_drewN | apply Kd.R_drew)); exact Kd.R_mono aB.out (fun _ hk => ⟨hk.1, ⟨hk.2.2, hk.2.1⟩⟩)), (rT bC.out), (rT aN.out), (bT ac.out), (bT ad.out), (bT ag.out), (bT af.out), (eTx HB.out)⟩)
    ·skip
     refine Kd.R_lit_step Kd.string _ 9 ?hg (N := 42) ?hd (xs := ([a2] : List ByteArray)) (inner := [.string a2]) (ok := fun _ => True) (okp := fun _ => True) ?hr ?hp (fun _ hk => hk) trivial (Below.refl _ _) (Nat.le_refl _) (by simp) ?_; (case hd => rfl); (case hg => rfl); (case hr => first | (go_simp; done) | (go_simp; rfl)); (case hp => exact (Reps.one (show Kd.M Kd.string _ _ _ a2 [.string a2] from rfl) (Reps.none _ _)))
     intro bE w57 ho58 hb hg_ hnew_
     clear hg_ hnew_
     (first | rw [← Ny287.out] at ho58 | (simp only [Int.reduceToNat] at ho58; rw [← Ny287.out] at ho58))
     replace aa := am (Kd.V_elder' (vT aa.out) (Kd.R_base ho58) hb)
     replace ab := am (Kd.V_elder' (vT ab.out) (Kd.R_base ho58) hb)
     replace aj := am (rB aj.out hb)
     have aN := am (Kd.R_lower (Kd.R_new' (Kd.R_newM (M := fun k_ => (w.heap.size ≤ k_)) ho58 (below_size (eTx HB.out)) (fun k_ h_ => h_)) (Kd.R_lt (rT ak.out))) (below_size (eTx HB.out)))
     replace ac := am (bB ac.out hb)
     replace ad := am (bB ad.out hb)
     replace ag := am (bB ag.out hb)
     replace af := am (bB af.out hb)
     replace ak := am (Kd.R_elder' (rT ak.out) (Kd.R_base ho58) hb)
     replace HB := am (sTx HB.out hb)
     clear hb ho58
     refine hK.out _ _ ⟨cT af 0, cT af 1, cT ad 0, cT ad 1⟩ (fun hHeld => ?_)
     clear hK K
     refine mN 42 ?_
     refine oT 4 (bA 16 2015) HT_.out fun K hK => ?_
     refine Kd.R_lit_step k27 _ 27 ?hg (N := 36) ?hd (xs := ([(⟨a1_0, a1_1⟩ : S27)] : List (S27))) (inner := [.string a1_0, .string a1_1]) (ok := fun _ => True) (okp := fun _ => True) ?hr ?hp (fun _ hk => hk) trivial (Below.refl _ _) (Nat.le_refl _) (by simp) ?_; (case hd => rfl); (case hg => rfl); (case hr => first | (go_simp; done) | (go_simp; rfl)); (case hp => exact (Reps.c2 (show Kd.M k27 _ _ _ (⟨a1_0, a1_1⟩ : S27) [.string a1_0, .string a1_1] from (k27_mkM _ _ _ (⟨a1_0, a1_1⟩ : S27) )) (Reps.none _ _)))
     intro bQ w59 ho60 hb hg_ hnew_
     clear hg_ hnew_
     (first | rw [← Ny281.out] at ho60 | (simp only [Int.reduceToNat] at ho60; rw [← Ny281.out] at ho60))
     replace aa := am (Kd.V_elder' (vT aa.out) (Kd.R_base ho60) hb)
     replace ab := am (Kd.V_elder' (vT ab.out) (Kd.R_base ho60) hb)
     replace ak := am (rB ak.out hb)
     replace aN := am (rB aN.out hb)
     have aB := am (Kd.R_lower (Kd.R_newB (Kd.R_new' (Kd.R_newM (M := fun k_ => (w.heap.size ≤ k_)) ho60 (below_size (eTx HB.out)) (fun k_ h_ => h_)) (Kd.R_lt (rT aj.out))) (g := ai) (o := .cells #[.string a1_0, .string a1_1] 27 (0, 0)) (bT ad.out)) (below_size (eTx HB.out)))
     replace ac := am (bB ac.out hb)
     replace ag := am (bB ag.out hb)
     replace af := am (bB af.out hb)
     replace aj := am (Kd.R_elder' (rT aj.out) (Kd.R_base ho60) hb)
     replace ad := am (bB ad.out hb)
     replace HB := am (sTx HB.out hb)
     clear hb ho60
     obtain ⟨bK, bL, b9⟩ := Kd.R_slice aB.out
     (first | subst b9 | (injection b9 with f1_ f2_ f3_; have f4_ := f1_.symm; have f5_ := f3_.symm; clear f1_ f2_ f3_; subst f4_; subst f5_))
     refine hK.out _ _ ⟨cT af 0, cT af 1, cT ad 0, cT ad 1⟩ (fun hHeld => ?_)
     clear hK K
     refine mN 36 ?_
     refine oT 5 (bA 16 2047) HT_.out fun K hK => ?_
     refine gS Tryz.func23 #[.slice aK aq.length aL, .int .i64 aE, .slice bK bb.length bL] ?_
     with_reducible refine (api_Node_23.calls (fun k_ => some k_ = (.slice aK aq.length aL : Value).ownBlock) (.slice aK aq.length aL) aq aE _ _ bb aV w _ ?side1 (Kd.R_tight rfl aj.out) ?side3 ((Kd.R_reads' aB.out).2.1) A35.out).mono ?_
     (case side1 => repeat (first | (with_reducible first | exact HB.out | apply pA | apply pN | apply pD | refine eU ?_ (by assumption)) | exact HB.out))
     (case side3 => exact Kd.C_kept_own (aB.out) (fun k_ hk_ hs_ => (hk_.1.2) hs_))
     rintro e w62 ⟨a8, rfl, ho0, hb, hkp⟩
     refine ⟨_, rfl, ?_⟩
     replace aa := am (Kd.V_mono (ok' := fun k_ => ((P0_0_ k_ ∨ P0_1_ k_) ∨ w.heap.size ≤ k_) ∧ some k_ ≠ (.slice aC al.length aD : Value).ownBlock ∧ some k_ ≠ (bE : Value).ownBlock ∧ some k_ ≠ (.slice bK bb.length bL : Value).ownBlock ∧ k_ ≠ ar ∧ k_ ≠ ai ∧ k_ ≠ an ∧ k_ ≠ ae ∧ some k_ ≠ (a8 : Value).ownBlock) (Kd.V_keptB (aa.out) hkp (fun k_ hk_ hs_ => (hk_.1.1.2.1) hs_)) (fun k_ hk_ => ⟨hk_.1.1.1.1, hk_.1.1.1.2.2.1, hk_.1.1.2, hk_.1.2, hk_.1.1.1.2.2.2.1, hk_.1.1.1.2.2.2.2.1, hk_.1.1.1.2.2.2.2.2.1, hk_.1.1.1.2.2.2.2.2.2, fun e_ => Or.elim (ho0.1 k_ e_.symm) (fun hs_ => hk_.2.1 hs_) (fun hn_ => Nat.not_le.2 hk_.2.2 hn_)⟩))
     replace ab := am (Kd.V_mono (ok' := fun k_ => ((P0_0_ k_ ∨ P0_1_ k_) ∨ w.heap.size ≤ k_) ∧ some k_ ≠ (.slice aC al.length aD : Value).ownBlock ∧ some k_ ≠ (bE : Value).ownBlock ∧ some k_ ≠ (.slice bK bb.length bL : Value).ownBlock ∧ k_ ≠ ar ∧ k_ ≠ ai ∧ k_ ≠ an ∧ k_ ≠ ae ∧ some k_ ≠ (a8 : Value).ownBlock) (Kd.V_keptB (ab.out) hkp (fun k_ hk_ hs_ => (hk_.1.1.2.1) hs_)) (fun k_ hk_ => ⟨hk_.1.1.1.1, hk_.1.1.1.2.2.1, hk_.1.1.2, hk_.1.2, hk_.1.1.1.2.2.2.1, hk_.1.1.1.2.2.2.2.1, hk_.1.1.1.2.2.2.2.2.1, hk_.1.1.1.2.2.2.2.2.2, fun e_ => Or.elim (ho0.1 k_ e_.symm) (fun hs_ => hk_.2.1 hs_) (fun hn_ => Nat.not_le.2 hk_.2.2 hn_)⟩))
     replace ac := am (blk_kept (bT ac.out) hkp (fun hs_ => (fun e_ => (Kd.R_ne aj.out ac.out (by decide)) e_) hs_))
     replace ag := am (blk_kept (bT ag.out) hkp (fun hs_ => (fun e_ => (Kd.R_ne aj.out ag.out (by decide)) e_) hs_))
     replace ak := am (Kd.R_mono (ok' := fun k_ => (w.heap.size ≤ k_) ∧ some k_ ≠ (bE : Value).ownBlock) (Kd.R_keptB ((Kd.R_apart' ak.out (Kd.R_typed aj.out) (by decide))) hkp (fun k_ hk_ hs_ => (hk_.2) hs_)) (fun k_ hk_ => ⟨hk_.1.1.1, hk_.1.1.2⟩))
     replace af := am (blk_kept (bT af.out) hkp (fun hs_ => (fun e_ => (Kd.R_ne aj.out af.out (by decide)) e_) hs_))
     replace aN := am (Kd.R_mono (ok' := fun k_ => (w.heap.size ≤ k_) ∧ some k_ ≠ (.slice aC al.length aD : Value).ownBlock) (Kd.R_keptB ((Kd.R_apart' aN.out (Kd.R_typed aj.out) (by decide))) hkp (fun k_ hk_ hs_ => (hk_.2) hs_)) (fun k_ hk_ => ⟨hk_.1.1.1.1, hk_.1.1.2⟩))
     have bC := am (Kd.R_mono (ok' := fun k_ => (w.heap.size ≤ k_) ∧ some k_ ≠ (.slice bK bb.length bL : Value).ownBlock ∧ k_ ≠ ai) ho0 (fun k_ hk_ => ⟨Or.elim hk_ (fun hs_ => (aj.out.1 k_ (hs_).symm).1.1) (fun hn_ => (Nat.le_trans (below_size (eTx HB.out)) hn_)), Or.elim hk_ (fun hs_ => fun e_ => (((aB.out).1 k_ e_.symm).1.2) hs_) (fun hn_ => (Kd.fresh' (Kd.R_lt (rT aB.out)) k_ hn_)), Or.elim hk_ (fun hs_ => fun e_ => (Kd.R_away aj.out (fun _ hk => hk.1.2)) (by rw [← e_]; exact hs_)) (fun hn_ => (Kd.freshB (g := ai) (o := .cells #[.string a1_0, .string a1_1] 27 (0, 0)) (bT ad.out) k_ hn_))⟩))
     replace ad := am (blk_kept (bT ad.out) hkp (fun hs_ => (fun e_ => (Kd.R_away aj.out (fun _ hk => hk.1.2)) e_) hs_))
     replace aB := am (Kd.R_mono (ok' := fun k_ => (w.heap.size ≤ k_) ∧ k_ ≠ ai ∧ some k_ ≠ (a8 : Value).ownBlock) (Kd.R_keptB (aB.out) hkp (fun k_ hk_ hs_ => (hk_.1.2) hs_)) (fun k_ hk_ => ⟨hk_.1.1.1.1, hk_.1.2, fun e_ => Or.elim (ho0.1 k_ e_.symm) (fun hs_ => hk_.2.1 hs_) (fun hn_ => Nat.not_le.2 hk_.2.2 hn_)⟩))
     replace HB := am (hb)
     clear aj
     refine hK.out _ _ ⟨cT af 0, cT af 1, cT ad 0, cT ad 1⟩ (fun hHeld => ?_)
     clear hK K
     refine mN 37 ?_
     refine pT 12 44 (bA 16 6143) HT_.out ?_
     exact norm_ rfQ (hCont (.slice bK bb.length bL, a8, bE) _ ⟨hHeld, (by (with_reducible repeat (first | apply Kd.V_alloc | apply Kd.V_drewN | apply Kd.V_drew)); exact Kd.V_mono aa.out (fun _ hk => ⟨hk.1, ⟨hk.2.1, ⟨hk.2.2.2.1, ⟨hk.2.2.2.2.2.2.2.2, ⟨hk.2.2.1, ⟨hk.2.2.2.2.1, ⟨hk.2.2.2.2.2.1, ⟨hk.2.2.2.2.2.2.1, hk.2.2.2.2.2.2.2.1⟩⟩⟩⟩⟩⟩⟩⟩)), (by (with_reducible repeat (first | apply Kd.V_alloc | apply Kd.V_drewN | apply Kd.V_drew)); exact Kd.V_mono ab.out (fun _ hk => ⟨hk.1, ⟨hk.2.1, ⟨hk.2.2.2.1, ⟨hk.2.2.2.2.2.2.2.2, ⟨hk.2.2.1, ⟨hk.2.2.2.2.1, ⟨hk.2.2.2.2.2.1, ⟨hk.2.2.2.2.2.2.1, hk.2.2.2.2.2.2.2.1⟩⟩⟩⟩⟩⟩⟩⟩)), (rT ak.out), (by (with_reducible repeat (first | apply Kd.R_alloc | apply Kd.R_drewN | apply Kd.R_drew)); exact Kd.R_mono aB.out (fun _ hk => ⟨hk.1, ⟨hk.2.2, hk.2.1⟩⟩)), (rT bC.out), (rT aN.out), (bT ac.out), (bT ad.out), (bT ag.out), (bT af.out), (eTx HB.out)⟩)
   rintro ⟨bQ, a8, bE⟩ w63 ⟨hS_, h0_, h1_, h2_, h3_, h4_, h5_, h6_, h7_, h8_, h9_, h10_⟩
   replace aa : Aside0 (Kd.V k27 27 w63 w.heap.size (fun k_ => ((P0_0_ k_ ∨ P0_1_ k_) ∨ w.heap.size ≤ k_) ∧ some k_ ≠ (.slice aC al.length aD : Value).ownBlock ∧ some k_ ≠ (bQ : Value).ownBlock ∧ some k_ ≠ (a8 : Value).ownBlock ∧ some k_ ≠ (bE : Value).ownBlock ∧ k_ ≠ ar ∧ k_ ≠ ai ∧ k_ ≠ an ∧ k_ ≠ ae) (.slice av l0_0.length aw) l0_0) := ⟨h0_⟩
   replace ab : Aside0 (Kd.V Kd.string 9 w63 w.heap.size (fun k_ => ((P0_0_ k_ ∨ P0_1_ k_) ∨ w.heap.size ≤ k_) ∧ some k_ ≠ (.slice aC al.length aD : Value).ownBlock ∧ some k_ ≠ (bQ : Value).ownBlock ∧ some k_ ≠ (a8 : Value).ownBlock ∧ some k_ ≠ (bE : Value).ownBlock ∧ k_ ≠ ar ∧ k_ ≠ ai ∧ k_ ≠ an ∧ k_ ≠ ae) (.slice ay l0_1.length az) l0_1) := ⟨h1_⟩
   replace ak : Aside0 (Kd.R Kd.string 9 w63 w.heap.size (fun k_ => (w.heap.size ≤ k_) ∧ some k_ ≠ (bE : Value).ownBlock) (.slice aC al.length aD) al) := ⟨h2_⟩
   have aB : Aside0 (Kd.R k27 27 w63 w.heap.size (fun k_ => (w.heap.size ≤ k_) ∧ some k_ ≠ (a8 : Value).ownBlock ∧ k_ ≠ ai) bQ bb) := ⟨h3_⟩
   have bC : Aside0 (Kd.R k27 27 w63 w.heap.size (fun k_ => (w.heap.size ≤ k_) ∧ some k_ ≠ (bQ : Value).ownBlock ∧ k_ ≠ ai) a8 aV) := ⟨h4_⟩
   have aN : Aside0 (Kd.R Kd.string 9 w63 w.heap.size (fun k_ => (w.heap.size ≤ k_) ∧ some k_ ≠ (.slice aC al.length aD : Value).ownBlock) bE bU) := ⟨h5_⟩
   replace ac : Aside0 (w63.heap[ar]? = some (.cells #[.slice av l0_0.length aw, .slice ay l0_1.length az] 25 (0, 0))) := ⟨h6_⟩
   replace ad : Aside0 (w63.heap[ai]? = some (.cells #[.string a1_0, .string a1_1] 27 (0, 0))) := ⟨h7_⟩
   replace ag : Aside0 (w63.heap[an]? = some (.cells #[.slice none 0 0, .slice none 0 0] 25 (0, 0))) := ⟨h8_⟩
   replace af : Aside0 (w63.heap[ae]? = some (.cells #[.slice aK aq.length aL, .slice aC al.length aD] 25 (0, 0))) := ⟨h9_⟩
   replace HB : Aside0 (Below w.heap.size w w63) := ⟨h10_⟩
   clear aj h0_ h1_ h2_ h3_ h4_ h5_ h6_ h7_ h8_ h9_ h10_
   have hHeld := hS_
   (try dsimp only at hHeld)
   obtain ⟨cE, cF, dx⟩ := Kd.R_slice aN.out
   (first | subst dx | (injection dx with f1_ f2_ f3_; have f4_ := f1_.symm; have f5_ := f3_.symm; clear f1_ f2_ f3_; subst f4_; subst f5_))
   refine rN ?_
   refine oT 11 (bA 16 8191) HT_.out fun K hK => ?_
   refine gS Tryz.func24 #[.slice aC al.length aD, .int .i64 aE, .slice cE bU.length cF] ?_
   with_reducible refine (slices_Insert_string_string.calls (fun k_ => some k_ = (.slice aC al.length aD : Value).ownBlock) (.slice aC al.length aD) al aE _ _ bU a7 w _ ?side1 (Kd.R_tight rfl ak.out) ?side3 ((Kd.R_reads' aN.out).2.1) A36.out).mono ?_
   (case side1 => repeat (first | (with_reducible first | exact HB.out | apply pA | apply pN | apply pD | refine eU ?_ (by assumption)) | exact HB.out))
   (case side3 => exact Kd.C_kept_own (aN.out) (fun k_ hk_ hs_ => (hk_.2) hs_))
   rintro e w65 ⟨cZ, rfl, ho0, hb, hkp⟩
   refine ⟨_, rfl, ?_⟩
   replace aa := am (Kd.V_mono (ok' := fun k_ => ((P0_0_ k_ ∨ P0_1_ k_) ∨ w.heap.size ≤ k_) ∧ some k_ ≠ (bQ : Value).ownBlock ∧ some k_ ≠ (a8 : Value).ownBlock ∧ some k_ ≠ (.slice cE bU.length cF : Value).ownBlock ∧ k_ ≠ ar ∧ k_ ≠ ai ∧ k_ ≠ an ∧ k_ ≠ ae ∧ some k_ ≠ (cZ : Value).ownBlock) (Kd.V_keptB (aa.out) hkp (fun k_ hk_ hs_ => (hk_.2.1) hs_)) (fun k_ hk_ => ⟨hk_.1.1, hk_.1.2.2.1, hk_.1.2.2.2.1, hk_.1.2.2.2.2.1, hk_.1.2.2.2.2.2.1, hk_.1.2.2.2.2.2.2.1, hk_.1.2.2.2.2.2.2.2.1, hk_.1.2.2.2.2.2.2.2.2, fun e_ => Or.elim (ho0.1 k_ e_.symm) (fun hs_ => hk_.2.1 hs_) (fun hn_ => Nat.not_le.2 hk_.2.2 hn_)⟩))
   replace ab := am (Kd.V_mono (ok' := fun k_ => ((P0_0_ k_ ∨ P0_1_ k_) ∨ w.heap.size ≤ k_) ∧ some k_ ≠ (bQ : Value).ownBlock ∧ some k_ ≠ (a8 : Value).ownBlock ∧ some k_ ≠ (.slice cE bU.length cF : Value).ownBlock ∧ k_ ≠ ar ∧ k_ ≠ ai ∧ k_ ≠ an ∧ k_ ≠ ae ∧ some k_ ≠ (cZ : Value).ownBlock) (Kd.V_keptB (ab.out) hkp (fun k_ hk_ hs_ => (hk_.2.1) hs_)) (fun k_ hk_ => ⟨hk_.1.1, hk_.1.2.2.1, hk_.1.2.2.2.1, hk_.1.2.2.2.2.1, hk_.1.2.2.2.2.2.1, hk_.1.2.2.2.2.2.2.1, hk_.1.2.2.2.2.2.2.2.1, hk_.1.2.2.2.2.2.2.2.2, fun e_ => Or.elim (ho0.1 k_ e_.symm) (fun hs_ => hk_.2.1 hs_) (fun hn_ => Nat.not_le.2 hk_.2.2 hn_)⟩))
   replace ac := am (blk_kept (bT ac.out) hkp (fun hs_ => (fun e_ => (Kd.R_ne ak.out ac.out (by decide)) e_) hs_))
   replace ad := am (blk_kept (bT ad.out) hkp (fun hs_ => (fun e_ => (Kd.R_ne ak.out ad.out (by decide)) e_) hs_))
   replace ag := am (blk_kept (bT ag.out) hkp (fun hs_ => (fun e_ => (Kd.R_ne ak.out ag.out (by decide)) e_) hs_))
   replace af := am (blk_kept (bT af.out) hkp (fun hs_ => (fun e_ => (Kd.R_ne ak.out af.out (by decide)) e_) hs_))
   replace aB := am (Kd.R_mono (ok' := fun k_ => (w.heap.size ≤ k_) ∧ some k_ ≠ (a8 : Value).ownBlock ∧ k_ ≠ ai) (Kd.R_keptB ((Kd.R_apart' aB.out (Kd.R_typed ak.out) (by decide))) hkp (fun k_ hk_ hs_ => (hk_.2) hs_)) (fun k_ hk_ => ⟨hk_.1.1.1, hk_.1.1.2.1, hk_.1.1.2.2⟩))
   replace bC := am (Kd.R_mono (ok' := fun k_ => (w.heap.size ≤ k_) ∧ some k_ ≠ (bQ : Value).ownBlock ∧ k_ ≠ ai) (Kd.R_keptB ((Kd.R_apart' bC.out (Kd.R_typed ak.out) (by decide))) hkp (fun k_ hk_ hs_ => (hk_.2) hs_)) (fun k_ hk_ => ⟨hk_.1.1.1, hk_.1.1.2.1, hk_.1.1.2.2⟩))
   have cP := am (Kd.R_mono (ok' := fun k_ => (w.heap.size ≤ k_) ∧ some k_ ≠ (.slice cE bU.length cF : Value).ownBlock) ho0 (fun k_ hk_ => ⟨Or.elim hk_ (fun hs_ => (ak.out.1 k_ (hs_).symm).1) (fun hn_ => (Nat.le_trans (below_size (eTx HB.out)) hn_)), Or.elim hk_ (fun hs_ => fun e_ => (((aN.out).1 k_ e_.symm).2) hs_) (fun hn_ => (Kd.fresh' (Kd.R_lt (rT aN.out)) k_ hn_))⟩))
   replace aN := am (Kd.R_mono (ok' := fun k_ => (w.heap.size ≤ k_) ∧ some k_ ≠ (cZ : Value).ownBlock) (Kd.R_keptB (aN.out) hkp (fun k_ hk_ hs_ => (hk_.2) hs_)) (fun k_ hk_ => ⟨hk_.1.1, fun e_ => Or.elim (ho0.1 k_ e_.symm) (fun hs_ => hk_.2.1 hs_) (fun hn_ => Nat.not_le.2 hk_.2.2 hn_)⟩))
   replace HB := am (hb)
   clear ak
   obtain ⟨bZ, b0, dy⟩ := Kd.R_slice bC.out
   (first | subst dy | (injection dy with f1_ f2_ f3_; have f4_ := f1_.symm; have f5_ := f3_.symm; clear f1_ f2_ f3_; subst f4_; subst f5_))
   obtain ⟨b_, ca, dz⟩ := Kd.R_slice cP.out
   (first | subst dz | (injection dz with f1_ f2_ f3_; have f4_ := f1_.symm; have f5_ := f3_.symm; clear f1_ f2_ f3_; subst f4_; subst f5_))
   refine hK.out _ _ ⟨cT af 0, cT af 1, cT ad 0, cT ad 1⟩ (fun hHeld => ?_)
   clear hK K
   refine mN 43 ?_
   refine last_ (i := 13) (N := none) (bA 16 16383) rfl rfl (one_of HT_.out rfK) (by decide) (fun K hK => ?_)
   obtain ⟨gl, fS⟩ := bxA af
   have d3 := aI.out
   have d4 := aJ.out
   have d5 := aF.out
   have d6 := bj.out
   have d7 := bk.out
   have d8 := bl.out
   refine skip_ (w1 := ?_) (by rfl) rfl ?_ ?_
   rotate_left
   ·go_simp
    rfl
   refine hK.out _ _ ?_
   clear hK K
   refine pT 14 45 (bA 16 32767) HT_.out ?_
   refine last_ (i := 15) (N := none) (bA 16 65535) rfl rfl (one_of HT_.out rfK) (by decide) (fun K hK => ?_)
   have gm : w65.cell? ⟨ae, 1, none⟩ = some (.slice aC al.length aD) := cT af 1
   have fT := blk_frozen af.out 1
   have d9 := aI.out
   have d_ := aJ.out
   have ea := aF.out
   have eb := bj.out
   have ec := bk.out
   have ed := bl.out
   refine skip_ (w1 := ?_) (by rfl) rfl ?_ ?_
   rotate_left
   ·go_simp
    rfl
   refine hK.out _ _ ?_
   clear hK K
   refine done_ (done_of HT_.out rfK) ?_
   obtain ⟨ee, ef, eg, eh⟩ := bxB af
   obtain ⟨ei, ej, ek, el⟩ := bxB ag
   try go_wp2
   refine bodyPost_ret (results_ct rfl _ _ an 25 #[.slice bZ aV.length b0, .slice b_ a7.length ca] (0, 0) _ rfl kBk Tryz.underlying25 rfl rfK) rfl ?_
   exact ⟨_, _, rfF, Kd.V_mono (Kd.R_V (by (with_reducible repeat (first | apply Kd.R_alloc | apply Kd.R_drewN | apply Kd.R_drew)); exact Kd.R_mono (Kd.R_far (p := ⟨an, 1, none⟩) (Kd.R_far (p := ⟨an, 0, none⟩) (Kd.R_far (p := ⟨ae, 1, none⟩) (Kd.R_far (p := ⟨ae, 0, none⟩) (Kd.R_types (Kd.R_types bC.out af.out (by decide)) ag.out (by decide)) (fun _ hk => hk.1.2) (.slice bZ aV.length b0)) (fun _ hk => hk.1.2) (.slice b_ a7.length ca)) (fun _ hk => hk.2) (.slice bZ aV.length b0)) (fun _ hk => hk.2) (.slice b_ a7.length ca)) (fun _ hk => hk.1.1.1))) (fun k_ hk => by first | exact ⟨(.inr (hk.1)), hk.2⟩ | exact (.inr (hk))), Kd.V_mono (Kd.R_V (by (with_reducible repeat (first | apply Kd.R_alloc | apply Kd.R_drewN | apply Kd.R_drew)); exact Kd.R_mono (Kd.R_far (p := ⟨an, 1, none⟩) (Kd.R_far (p := ⟨an, 0, none⟩) (Kd.R_far (p := ⟨ae, 1, none⟩) (Kd.R_far (p := ⟨ae, 0, none⟩) (Kd.R_types (Kd.R_types cP.out af.out (by decide)) ag.out (by decide)) (fun _ hk => hk.1.2) (.slice bZ aV.length b0)) (fun _ hk => hk.1.2) (.slice b_ a7.length ca)) (fun _ hk => hk.2) (.slice bZ aV.length b0)) (fun _ hk => hk.2) (.slice b_ a7.length ca)) (fun _ hk => hk.1.1.1))) (fun k_ hk => by first | exact ⟨(.inr (hk.1)), hk.2⟩ | exact (.inr (hk))), eTx HB.out⟩
 ·have fm := beq_eq_false_iff_ne.mpr c5
  have fn := bne_iff_ne.mpr c5
  simp only [Option.some.injEq, Prod.mk.injEq] at H
  obtain ⟨rfl, rfl, rfl⟩ := H
  go_enter Tryz.func7, Tryz.ntmps7
  go_wp2_with (first | ((with_reducible refine gtD 3 ?_); refine xBx 3 25 #[.slice av l0_0.length aw, .slice ay l0_1.length az] ?_; intro ar hg w72 hbox hb; replace aa := am (Kd.V_below (Kd.V_elderB (vT aa.out) ar (Nat.le_of_eq hg.symm)) hb); replace ab := am (Kd.V_below (Kd.V_elderB (vT ab.out) ar (Nat.le_of_eq hg.symm)) hb); have ac := am (hbox); have cJ := am ((gTx hg HB.out)); have cK := am ((gTx hg HB.out)); replace HB := am (sTx HB.out hb); clear hb hbox hg) | ((with_reducible refine gtD 4 ?_); refine xBx 4 27 #[.string a1_0, .string a1_1] ?_; intro ai hg w73 hbox hb; replace aa := am (Kd.V_below (Kd.V_elderB (vT aa.out) ai (Nat.le_of_eq hg.symm)) hb); replace ab := am (Kd.V_below (Kd.V_elderB (vT ab.out) ai (Nat.le_of_eq hg.symm)) hb); have ad := am (hbox); have cL := am ((gTx hg HB.out)); have cM := am ((gTx hg HB.out)); have bc := am ((nT ac.out hg)); have be := am ((mT ac.out hg)); replace ac := am (bB ac.out hb); replace HB := am (sTx HB.out hb); clear hb hbox hg) | ((with_reducible refine gtD 6 ?_); refine xBx 6 25 #[.slice none 0 0, .slice none 0 0] ?_; intro an hg w74 hbox hb; replace aa := am (Kd.V_below (Kd.V_elderB (vT aa.out) an (Nat.le_of_eq hg.symm)) hb); replace ab := am (Kd.V_below (Kd.V_elderB (vT ab.out) an (Nat.le_of_eq hg.symm)) hb); have ag := am (hbox); have cN := am ((gTx hg HB.out)); have cO := am ((gTx hg HB.out)); have bf := am ((nT ac.out hg)); have bg := am ((mT ac.out hg)); have bh := am ((nT ad.out hg)); have bi := am ((mT ad.out hg)); replace ac := am (bB ac.out hb); replace ad := am (bB ad.out hb); replace HB := am (sTx HB.out hb); clear hb hbox hg; have fU := bc.out; have fV := be.out; have fW := bf.out; have fX := bg.out; obtain ⟨em, en, eo, ep⟩ := bxB ac; have fY := bh.out; have fZ := bi.out; obtain ⟨eq, er, es, et⟩ := bxB ad) | ((with_reducible refine gtC 21 ?_); refine xCb 15 Tryz.func21 (store_find.calls k _ _ l0_0 _ _ l0_1 a1_0 a1_1 aE ce bM _ (cW (Kd.V_reads' aa.out).2.2) ((Kd.V_reads' aa.out).2.1) (cW (Kd.V_reads' ab.out).2.2) ((Kd.V_reads' ab.out).2.1) A4.out) fun w80 hb => ?_; replace aa := am (vB aa.out hb); replace ab := am (vB ab.out hb); replace ac := am (bB ac.out hb); replace ad := am (bB ad.out hb); replace ag := am (bB ag.out hb); replace HB := am (sTx HB.out hb); obtain ⟨eu, ev, ew, ex⟩ := bxB ac; obtain ⟨ey, ez, eA, eB⟩ := bxB ag))
  refine bodyPost_ret (results_ct rfl _ _ an 25 #[.slice av l0_0.length aw, .slice ay l0_1.length az] (0, 0) _ rfl kBk Tryz.underlying25 rfl rfK) rfl ?_
  exact ⟨_, _, rfF, by (with_reducible repeat (first | apply Kd.V_alloc | apply Kd.V_drewN | apply Kd.V_drew)); exact Kd.V_mono (Kd.V_far (p := ⟨an, 1, none⟩) (Kd.V_far (p := ⟨an, 0, none⟩) (Kd.V_mono aa.out (fun k_ hk => (⟨hk, hk.2⟩ : _ ∧ k_ ≠ an))) (fun _ hk => hk.2) (.slice av l0_0.length aw)) (fun _ hk => hk.2) (.slice ay l0_1.length az)) (fun _ hk => hk.1.1.1.1), by (with_reducible repeat (first | apply Kd.V_alloc | apply Kd.V_drewN | apply Kd.V_drew)); exact Kd.V_mono (Kd.V_far (p := ⟨an, 1, none⟩) (Kd.V_far (p := ⟨an, 0, none⟩) (Kd.V_mono ab.out (fun k_ hk => (⟨hk, hk.2⟩ : _ ∧ k_ ≠ an))) (fun _ hk => hk.2) (.slice av l0_0.length aw)) (fun _ hk => hk.2) (.slice ay l0_1.length az)) (fun _ hk => hk.1.1.1.1), eTx HB.out⟩

-- HAND: api_Node_25: with the text above

-- HAND: slices_Delete_string_string: with the text above

/-! ### store_Drop: function 8 -/
def store_Drop.f (k : Nat) (l0_0 : List (S27)) (l0_1 : List ByteArray) (a1_0 : ByteArray) (a1_1 : ByteArray) : Option ((List (S27)) × List ByteArray × Int) := (store_find.f k l0_0 l0_1 a1_0 a1_1).bind fun bt296 => (if bt296.2.2 = 0 then (if bt296.2.1 = true then ((store_own.f l0_0 l0_1).bind fun bt299 => ((api_Node_25.f bt299.1 bt296.1 (wrap64 (bt296.1 + 1))).bind fun bx => ((slices_Delete_string_string.f bt299.2 bt296.1 (wrap64 (bt296.1 + 1))).bind fun bz => (some (bx, bz, 0))))) else (some (l0_0, l0_1, 2))) else (some (l0_0, l0_1, bt296.2.2)))
theorem store_Drop.mono : ∀ a0 a1 a2 a3 k, LeO (store_Drop.f k a0 a1 a2 a3) (store_Drop.f (k + 1) a0 a1 a2 a3) := by
 intro a0 a1 a2 a3 k
 unfold store_Drop.f
 repeat' first | (with_reducible first | apply store_find.mono | apply LeO.refl | apply LeO.none | apply LeO.ite | refine LeO.bind ?_ (fun _ => ?_)) | apply store_find.mono | exact LeO.none _ | refine LeO.ite ?_ ?_ | refine LeO.bind ?_ (fun _ => ?_)
def store_Drop.T7 : Bool × List (List Nat × List Nat) := (true, [([], []), ([0], [0]), ([], []), ([], []), ([3], [3]), ([1, 2, 4], [1, 2, 4]), ([], []), ([6], [6]), ([], []), ([], []), ([9], [9]), ([7, 8, 10, 5], [7, 8, 10]), ([0, 1, 2, 3, 4, 5, 6, 7], []), ([12, 5, 11, 0, 1, 2, 3, 4, 5, 6, 7], [5, 12]), ([0, 1, 2, 3, 4, 5, 6, 7, 8, 9, 10, 11, 12, 13], []), ([14, 11, 13, 0, 1, 2, 3, 4, 5, 6, 7, 8, 9, 10, 11, 12, 13], [11, 14])])
def store_Drop.B7 : List Nat := [0, 1, 0, 0, 8, 31, 0, 64, 0, 0, 512, 2047, 255, 8191, 16383, 32767]
theorem store_Drop.tab7 : rtab .any (opsOf Tryz.f8 7) = store_Drop.T7 := by kernel_rfl
theorem store_Drop.bits7 : waitsOk store_Drop.T7.2 store_Drop.B7 = true := by kernel_rfl
theorem store_Drop.calls (k : Nat) (P0_0_ : Nat → Prop) (av : Option Addr) (aw : Nat) (l0_0 : List (S27)) (P0_1_ : Nat → Prop) (ay : Option Addr) (az : Nat) (l0_1 : List ByteArray) (a1_0 : ByteArray) (a1_1 : ByteArray) (r1 : List (S27)) (r2 : List ByteArray) (r3 : Int) (w : World) (b5 : Kd.V k27 27 w w.heap.size (fun k_ => P0_0_ k_) (.slice av l0_0.length aw) l0_0) (b6 : Kd.V Kd.string 9 w w.heap.size (fun k_ => P0_1_ k_) (.slice ay l0_1.length az) l0_1) (h : store_Drop.f k l0_0 l0_1 a1_0 a1_1 = some (r1, r2, r3)) :
  Calls Tryz.prog 8 #[.agg #[.slice av l0_0.length aw, .slice ay l0_1.length az], .agg #[.string a1_0, .string a1_1]] w fun e w' => ∃ v0_ v1_ : Value, e = .returned (.tuple #[.agg #[v0_, v1_], .int .i64 r3]) ∧ Kd.V k27 27 w' w.heap.size (fun k_ => ((P0_0_ k_ ∨ P0_1_ k_) ∨ w.heap.size ≤ k_)) v0_ r1 ∧ Kd.V Kd.string 9 w' w.heap.size (fun k_ => ((P0_0_ k_ ∨ P0_1_ k_) ∨ w.heap.size ≤ k_)) v1_ r2 ∧ Below w.heap.size w w' := by
 have hu25 := Tryz.underlying25
 have hu27 := Tryz.underlying27
 have aa := am (show Kd.V k27 27 w w.heap.size (fun k_ => ((P0_0_ k_ ∨ P0_1_ k_) ∨ w.heap.size ≤ k_)) (.slice av l0_0.length aw) l0_0 from Kd.V_mono b5 (fun k_ hk => .inl (.inl hk)))
 have ab := am (show Kd.V Kd.string 9 w w.heap.size (fun k_ => ((P0_0_ k_ ∨ P0_1_ k_) ∨ w.heap.size ≤ k_)) (.slice ay l0_1.length az) l0_1 from Kd.V_mono b6 (fun k_ hk => .inl (.inr hk)))
 have HB := am (Below.refl w.heap.size w)
 unfold store_Drop.f at h; have H := h; clear h
 replace H := bnd H; obtain ⟨⟨aY, c0, bO⟩, A3, H⟩ := H
 (try dsimp only at H)
 replace H := ifP H; rcases H with ⟨c4, H⟩ | ⟨c4, H⟩
 ·have fw := beq_iff_eq.mpr c4
  have fx := bne_eq_false_iff_eq.mpr c4
  clear c4
  replace H := ifB H; rcases H with ⟨rfl, H⟩ | ⟨rfl, H⟩
  ·replace H := bnd H; obtain ⟨⟨aO, aM⟩, A6, H⟩ := H
   (try dsimp only at H)
   replace H := bnd H; obtain ⟨bx, A7, H⟩ := H
   replace H := bnd H; obtain ⟨bz, A8, H⟩ := H
   simp only [Option.some.injEq, Prod.mk.injEq] at H
   obtain ⟨rfl, rfl, rfl⟩ := H
   go_enter Tryz.func8, Tryz.ntmps8
   try go_wp2_with (first | ((with_reducible refine gtD 2 ?_); refine xBx 2 25 #[.slice av l0_0.length aw, .slice ay l0_1.length az] ?_; intro aG hg w9 hbox hb; replace aa := am (Kd.V_below (Kd.V_elderB (vT aa.out) aG (Nat.le_of_eq hg.symm)) hb); replace ab := am (Kd.V_below (Kd.V_elderB (vT ab.out) aG (Nat.le_of_eq hg.symm)) hb); have ah := am (hbox); have cQ := am ((gTx hg HB.out)); have cR := am ((gTx hg HB.out)); replace HB := am (sTx HB.out hb); clear hb hbox hg) | ((with_reducible refine gtD 3 ?_); refine xBx 3 27 #[.string a1_0, .string a1_1] ?_; intro aH hg w10 hbox hb; replace aa := am (Kd.V_below (Kd.V_elderB (vT aa.out) aH (Nat.le_of_eq hg.symm)) hb); replace ab := am (Kd.V_below (Kd.V_elderB (vT ab.out) aH (Nat.le_of_eq hg.symm)) hb); have ao := am (hbox); have cS := am ((gTx hg HB.out)); have cU := am ((gTx hg HB.out)); have bm := am ((nT ah.out hg)); have bo := am ((mT ah.out hg)); replace ah := am (bB ah.out hb); replace HB := am (sTx HB.out hb); clear hb hbox hg) | ((with_reducible refine gtD 4 ?_); refine xBx 4 25 #[.slice none 0 0, .slice none 0 0] ?_; intro ax hg w11 hbox hb; replace aa := am (Kd.V_below (Kd.V_elderB (vT aa.out) ax (Nat.le_of_eq hg.symm)) hb); replace ab := am (Kd.V_below (Kd.V_elderB (vT ab.out) ax (Nat.le_of_eq hg.symm)) hb); have au := am (hbox); have cV := am ((gTx hg HB.out)); have cX := am ((gTx hg HB.out)); have bp := am ((nT ah.out hg)); have bq := am ((mT ah.out hg)); have br := am ((nT ao.out hg)); have bs := am ((mT ao.out hg)); replace ah := am (bB ah.out hb); replace ao := am (bB ao.out hb); replace HB := am (sTx HB.out hb); clear hb hbox hg; have f0 := bm.out; have f1 := bo.out; have f2 := bp.out; have f3 := bq.out; obtain ⟨eC, eD, eE, eF⟩ := bxB ah; have db := br.out; have dc := bs.out; obtain ⟨cf, cg, ch, ci⟩ := bxB ao) | ((with_reducible refine gtC 21 ?_); refine xCb 13 Tryz.func21 (store_find.calls k _ _ l0_0 _ _ l0_1 a1_0 a1_1 aY true bO _ (cW (Kd.V_reads' aa.out).2.2) ((Kd.V_reads' aa.out).2.1) (cW (Kd.V_reads' ab.out).2.2) ((Kd.V_reads' ab.out).2.1) A3.out) fun w17 hb => ?_; replace aa := am (vB aa.out hb); replace ab := am (vB ab.out hb); replace ah := am (bB ah.out hb); replace ao := am (bB ao.out hb); replace au := am (bB au.out hb); replace HB := am (sTx HB.out hb); obtain ⟨cj, ck, cl, cm⟩ := bxB ah) | ((with_reducible refine gtC 22 ?_); refine xCl 27 Tryz.func22 (store_own.calls _ _ l0_0 _ _ l0_1 aO aM _ (cW (Kd.V_reads' aa.out).2.2) ((Kd.V_reads' aa.out).2.1) (cW (Kd.V_reads' ab.out).2.2) ((Kd.V_reads' ab.out).2.1) A6.out) ?_; rintro e w19 ⟨gn, go, rfl, ho0, ho1, hb⟩; refine ⟨_, rfl, ?_⟩; replace aa := am (Kd.V_mono (Kd.V_told (Kd.V_told (Kd.V_old (vT aa.out) hb) (Kd.R_base ho0)) (Kd.R_base ho1)) (fun _ h_ => h_.1)); replace ab := am (Kd.V_mono (Kd.V_told (Kd.V_told (Kd.V_old (vT ab.out) hb) (Kd.R_base ho0)) (Kd.R_base ho1)) (fun _ h_ => h_.1)); have aQ := am (Kd.R_lower (Kd.R_newB (Kd.R_newM (M := fun k_ => (w.heap.size ≤ k_)) ho0 (below_size (eTx HB.out)) (fun k_ h_ => h_)) (g := aH) (o := .cells #[.string a1_0, .string a1_1] 27 (0, 0)) (bT ao.out)) (below_size (eTx HB.out))); have aP := am (Kd.R_lower (Kd.R_newM (M := fun k_ => (w.heap.size ≤ k_)) ho1 (below_size (eTx HB.out)) (fun k_ h_ => h_)) (below_size (eTx HB.out))); replace ah := am (bB ah.out hb); replace au := am (bB au.out hb); replace ao := am (bB ao.out hb); replace HB := am (sTx HB.out hb)) | ((with_reducible refine gtD 9 ?_); refine xBx 9 25 #[.slice none 0 0, .slice none 0 0] ?_; intro ap hg w20 hbox hb; replace aa := am (Kd.V_below (Kd.V_elderB (vT aa.out) ap (Nat.le_of_eq hg.symm)) hb); replace ab := am (Kd.V_below (Kd.V_elderB (vT ab.out) ap (Nat.le_of_eq hg.symm)) hb); replace aQ := am (rB aQ.out hb); replace aP := am (rB aP.out hb); have aA := am (hbox); have f4 := am ((gTx hg HB.out)); have f5 := am ((gTx hg HB.out)); have bt := am ((nT ah.out hg)); have bF := am ((mT ah.out hg)); have bu := am ((nT ao.out hg)); have bG := am ((mT ao.out hg)); have aR := am ((nT au.out hg)); have bH := am ((mT au.out hg)); replace ah := am (bB ah.out hb); replace ao := am (bB ao.out hb); replace au := am (bB au.out hb); replace HB := am (sTx HB.out hb); clear hb hbox hg; obtain ⟨aZ, a5, fy⟩ := Kd.R_slice aQ.out; subst fy; have f6 := bF.out; have f9 := bt.out; have f_ := bG.out; have ga := bu.out; have df := bH.out; have dg := aR.out; obtain ⟨eG, eH, eI, eJ⟩ := bxB aA; obtain ⟨aW, aX, fz⟩ := Kd.R_slice aP.out; subst fz))
   obtain ⟨w27, hW_⟩ : ∃ W_, ((w20.setCell ⟨ap, 0, none⟩ (.slice aZ aO.length a5)).setCell ⟨ap, 1, none⟩ (.slice aW aM.length aX)) = W_ := ⟨_, rfl⟩
   have n0_ : Aside0 (Kd.V k27 27 w27 w.heap.size (fun k_ => ((P0_0_ k_ ∨ P0_1_ k_) ∨ w.heap.size ≤ k_) ∧ some k_ ≠ (.slice aZ aO.length a5 : Value).ownBlock ∧ some k_ ≠ (.slice aW aM.length aX : Value).ownBlock ∧ k_ ≠ aG ∧ k_ ≠ aH ∧ k_ ≠ ax ∧ k_ ≠ ap) (.slice av l0_0.length aw) l0_0) := ⟨by rw [← hW_]; (with_reducible repeat (first | apply Kd.V_alloc | apply Kd.V_drewN | apply Kd.V_drew)); exact Kd.V_mono (Kd.V_far (p := ⟨ap, 1, none⟩) (Kd.V_far (p := ⟨ap, 0, none⟩) (Kd.V_mono aa.out (fun k_ hk => (⟨hk, hk.2⟩ : _ ∧ k_ ≠ ap))) (fun _ hk => hk.2) (.slice aZ aO.length a5)) (fun _ hk => hk.2) (.slice aW aM.length aX)) (fun _ hk => ⟨hk.1.1.1.1.1.1.1, ⟨hk.1.1.1.2, ⟨hk.1.1.2, ⟨hk.1.1.1.1.1.1.2, ⟨hk.1.1.1.1.1.2, ⟨hk.1.1.1.1.2, hk.1.2⟩⟩⟩⟩⟩⟩)⟩
   have n1_ : Aside0 (Kd.V Kd.string 9 w27 w.heap.size (fun k_ => ((P0_0_ k_ ∨ P0_1_ k_) ∨ w.heap.size ≤ k_) ∧ some k_ ≠ (.slice aZ aO.length a5 : Value).ownBlock ∧ some k_ ≠ (.slice aW aM.length aX : Value).ownBlock ∧ k_ ≠ aG ∧ k_ ≠ aH ∧ k_ ≠ ax ∧ k_ ≠ ap) (.slice ay l0_1.length az) l0_1) := ⟨by rw [← hW_]; (with_reducible repeat (first | apply Kd.V_alloc | apply Kd.V_drewN | apply Kd.V_drew)); exact Kd.V_mono (Kd.V_far (p := ⟨ap, 1, none⟩) (Kd.V_far (p := ⟨ap, 0, none⟩) (Kd.V_mono ab.out (fun k_ hk => (⟨hk, hk.2⟩ : _ ∧ k_ ≠ ap))) (fun _ hk => hk.2) (.slice aZ aO.length a5)) (fun _ hk => hk.2) (.slice aW aM.length aX)) (fun _ hk => ⟨hk.1.1.1.1.1.1.1, ⟨hk.1.1.1.2, ⟨hk.1.1.2, ⟨hk.1.1.1.1.1.1.2, ⟨hk.1.1.1.1.1.2, ⟨hk.1.1.1.1.2, hk.1.2⟩⟩⟩⟩⟩⟩)⟩
   have n2_ : Aside0 (Kd.R k27 27 w27 w.heap.size (fun k_ => (w.heap.size ≤ k_) ∧ k_ ≠ aH) (.slice aZ aO.length a5) aO) := ⟨by rw [← hW_]; (with_reducible repeat (first | apply Kd.R_alloc | apply Kd.R_drewN | apply Kd.R_drew)); exact Kd.R_mono (Kd.R_far (p := ⟨ap, 1, none⟩) (Kd.R_far (p := ⟨ap, 0, none⟩) (Kd.R_types aQ.out aA.out (by decide)) (fun _ hk => hk.2) (.slice aZ aO.length a5)) (fun _ hk => hk.2) (.slice aW aM.length aX)) (fun _ hk => ⟨hk.1.1.1, hk.1.2⟩)⟩
   have n3_ : Aside0 (Kd.R Kd.string 9 w27 w.heap.size (fun k_ => (w.heap.size ≤ k_)) (.slice aW aM.length aX) aM) := ⟨by rw [← hW_]; (with_reducible repeat (first | apply Kd.R_alloc | apply Kd.R_drewN | apply Kd.R_drew)); exact Kd.R_mono (Kd.R_far (p := ⟨ap, 1, none⟩) (Kd.R_far (p := ⟨ap, 0, none⟩) (Kd.R_types aP.out aA.out (by decide)) (fun _ hk => hk.2) (.slice aZ aO.length a5)) (fun _ hk => hk.2) (.slice aW aM.length aX)) (fun _ hk => hk.1.1)⟩
   have n4_ : Aside0 (w27.heap[aG]? = some (.cells #[.slice av l0_0.length aw, .slice ay l0_1.length az] 25 (0, 0))) := ⟨by rw [← hW_]; exact kBk⟩
   have n5_ : Aside0 (w27.heap[aH]? = some (.cells #[.string a1_0, .string a1_1] 27 (0, 0))) := ⟨by rw [← hW_]; exact kBk⟩
   have n6_ : Aside0 (w27.heap[ax]? = some (.cells #[.slice none 0 0, .slice none 0 0] 25 (0, 0))) := ⟨by rw [← hW_]; exact kBk⟩
   have n7_ : Aside0 (w27.heap[ap]? = some (.cells #[.slice aZ aO.length a5, .slice aW aM.length aX] 25 (0, 0))) := ⟨by rw [← hW_]; exact kBk⟩
   have n8_ : Aside0 (Below w.heap.size w w27) := ⟨by rw [← hW_]; exact eTx HB.out⟩
   rw [hW_]
   clear hW_
   have aa := n0_
   have ab := n1_
   have aQ := n2_
   have aP := n3_
   have ah := n4_
   have ao := n5_
   have au := n6_
   have aA := n7_
   have HB := n8_
   clear n0_ n1_ n2_ n3_ n4_ n5_ n6_ n7_ n8_
   replace aa := am (Kd.V_drew aa.out)
   replace ab := am (Kd.V_drew ab.out)
   replace aQ := am (Kd.R_drew aQ.out)
   replace aP := am (Kd.R_drew aP.out)
   replace ah := am (blk_drew ah.out)
   replace ao := am (blk_drew ao.out)
   replace au := am (blk_drew au.out)
   replace aA := am (blk_drew aA.out)
   replace HB := am (below_drew1 HB.out)
   refine start_ (n := 16) (S := fun w' => w'.cell? ⟨ap, 0, none⟩ = some (.slice aZ aO.length a5) ∧ w'.cell? ⟨ap, 1, none⟩ = some (.slice aW aM.length aX)) (ds := [13, 15]) (bA 16 0) rfK rfl rfK ⟨cT aA 0, cT aA 1⟩ (fun hHeld => ?_); refine with_tabW store_Drop.tab7 store_Drop.bits7 (fun HT_ HW_ => ?_)
   generalize w27.drew = w28 at aa ab aQ aP ah ao au aA HB hHeld ⊢
   refine pT 0 28 (bA 16 1) HT_.out ?_
   refine pT 2 30 (bA 16 5) HT_.out ?_
   refine pT 3 31 (bA 16 13) HT_.out ?_
   refine pT 4 32 (bA 16 29) HT_.out ?_
   refine pT 6 34 (bA 16 93) HT_.out ?_
   refine pT 8 36 (bA 16 349) HT_.out ?_
   refine pT 9 37 (bA 16 861) HT_.out ?_
   refine pT 10 38 (bA 16 1885) HT_.out ?_
   refine tT 1 29 (bA 16 1887) HT_.out HW_.out hHeld ?_ (hy := by rintro w' ⟨s0, s1⟩; go_simp; with_reducible rfl)
   refine tT 7 35 (bA 16 2015) HT_.out HW_.out hHeld ?_ (hy := by rintro w' ⟨s0, s1⟩; go_simp; with_reducible rfl)
   refine oT 5 (bA 16 2047) HT_.out fun K hK => ?_
   refine gS Tryz.func25 #[.slice aZ aO.length a5, .int .i64 aY, .int .i64 (wrap64 (aY + 1))] ?_
   with_reducible refine (api_Node_25.calls (fun k_ => some k_ = (.slice aZ aO.length a5 : Value).ownBlock) (.slice aZ aO.length a5) aO aY (wrap64 (aY + 1)) bx w _ ?side1 (Kd.R_tight rfl aQ.out) A7.out).mono ?_
   (case side1 => repeat (first | (with_reducible first | exact HB.out | apply pA | apply pN | apply pD | refine eU ?_ (by assumption)) | exact HB.out))
   rintro e w29 ⟨cG, rfl, ho0, hb, hkp⟩
   refine ⟨_, rfl, ?_⟩
   replace aa := am (Kd.V_mono (ok' := fun k_ => ((P0_0_ k_ ∨ P0_1_ k_) ∨ w.heap.size ≤ k_) ∧ some k_ ≠ (.slice aW aM.length aX : Value).ownBlock ∧ k_ ≠ aG ∧ k_ ≠ aH ∧ k_ ≠ ax ∧ k_ ≠ ap ∧ some k_ ≠ (cG : Value).ownBlock) (Kd.V_keptB (aa.out) hkp (fun k_ hk_ hs_ => (hk_.2.1) hs_)) (fun k_ hk_ => ⟨hk_.1.1, hk_.1.2.2.1, hk_.1.2.2.2.1, hk_.1.2.2.2.2.1, hk_.1.2.2.2.2.2.1, hk_.1.2.2.2.2.2.2, fun e_ => Or.elim (ho0.1 k_ e_.symm) (fun hs_ => hk_.2.1 hs_) (fun hn_ => Nat.not_le.2 hk_.2.2 hn_)⟩))
   replace ab := am (Kd.V_mono (ok' := fun k_ => ((P0_0_ k_ ∨ P0_1_ k_) ∨ w.heap.size ≤ k_) ∧ some k_ ≠ (.slice aW aM.length aX : Value).ownBlock ∧ k_ ≠ aG ∧ k_ ≠ aH ∧ k_ ≠ ax ∧ k_ ≠ ap ∧ some k_ ≠ (cG : Value).ownBlock) (Kd.V_keptB (ab.out) hkp (fun k_ hk_ hs_ => (hk_.2.1) hs_)) (fun k_ hk_ => ⟨hk_.1.1, hk_.1.2.2.1, hk_.1.2.2.2.1, hk_.1.2.2.2.2.1, hk_.1.2.2.2.2.2.1, hk_.1.2.2.2.2.2.2, fun e_ => Or.elim (ho0.1 k_ e_.symm) (fun hs_ => hk_.2.1 hs_) (fun hn_ => Nat.not_le.2 hk_.2.2 hn_)⟩))
   replace ah := am (blk_kept (bT ah.out) hkp (fun hs_ => (fun e_ => (Kd.R_ne aQ.out ah.out (by decide)) e_) hs_))
   replace au := am (blk_kept (bT au.out) hkp (fun hs_ => (fun e_ => (Kd.R_ne aQ.out au.out (by decide)) e_) hs_))
   replace aP := am (Kd.R_mono (ok' := fun k_ => (w.heap.size ≤ k_)) (Kd.R_keptB ((Kd.R_apart' aP.out (Kd.R_typed aQ.out) (by decide))) hkp (fun k_ hk_ hs_ => (hk_.2) hs_)) (fun k_ hk_ => hk_.1.1))
   replace aA := am (blk_kept (bT aA.out) hkp (fun hs_ => (fun e_ => (Kd.R_ne aQ.out aA.out (by decide)) e_) hs_))
   have bX := am (Kd.R_mono (ok' := fun k_ => (w.heap.size ≤ k_) ∧ k_ ≠ aH) ho0 (fun k_ hk_ => ⟨Or.elim hk_ (fun hs_ => (aQ.out.1 k_ (hs_).symm).1) (fun hn_ => (Nat.le_trans (below_size (eTx HB.out)) hn_)), Or.elim hk_ (fun hs_ => fun e_ => (Kd.R_away aQ.out (fun _ hk => hk.2)) (by rw [← e_]; exact hs_)) (fun hn_ => (Kd.freshB (g := aH) (o := .cells #[.string a1_0, .string a1_1] 27 (0, 0)) (bT ao.out) k_ hn_))⟩))
   replace ao := am (blk_kept (bT ao.out) hkp (fun hs_ => (fun e_ => (Kd.R_away aQ.out (fun _ hk => hk.2)) e_) hs_))
   replace HB := am (hb)
   clear aQ
   refine hK.out _ _ ⟨cT aA 0, cT aA 1⟩ (fun hHeld => ?_)
   clear hK K
   refine mN 33 ?_
   refine pT 12 40 (bA 16 6143) HT_.out ?_
   refine oT 11 (bA 16 8191) HT_.out fun K hK => ?_
   refine gS Tryz.func26 #[.slice aW aM.length aX, .int .i64 aY, .int .i64 (wrap64 (aY + 1))] ?_
   with_reducible refine (slices_Delete_string_string.calls (fun k_ => some k_ = (.slice aW aM.length aX : Value).ownBlock) (.slice aW aM.length aX) aM aY (wrap64 (aY + 1)) bz w _ ?side1 (Kd.R_tight rfl aP.out) A8.out).mono ?_
   (case side1 => repeat (first | (with_reducible first | exact HB.out | apply pA | apply pN | apply pD | refine eU ?_ (by assumption)) | exact HB.out))
   rintro e w30 ⟨dA, rfl, ho0, hb, hkp⟩
   refine ⟨_, rfl, ?_⟩
   replace aa := am (Kd.V_mono (ok' := fun k_ => ((P0_0_ k_ ∨ P0_1_ k_) ∨ w.heap.size ≤ k_) ∧ some k_ ≠ (cG : Value).ownBlock ∧ k_ ≠ aG ∧ k_ ≠ aH ∧ k_ ≠ ax ∧ k_ ≠ ap ∧ some k_ ≠ (dA : Value).ownBlock) (Kd.V_keptB (aa.out) hkp (fun k_ hk_ hs_ => (hk_.2.1) hs_)) (fun k_ hk_ => ⟨hk_.1.1, hk_.1.2.2.2.2.2.2, hk_.1.2.2.1, hk_.1.2.2.2.1, hk_.1.2.2.2.2.1, hk_.1.2.2.2.2.2.1, fun e_ => Or.elim (ho0.1 k_ e_.symm) (fun hs_ => hk_.2.1 hs_) (fun hn_ => Nat.not_le.2 hk_.2.2 hn_)⟩))
   replace ab := am (Kd.V_mono (ok' := fun k_ => ((P0_0_ k_ ∨ P0_1_ k_) ∨ w.heap.size ≤ k_) ∧ some k_ ≠ (cG : Value).ownBlock ∧ k_ ≠ aG ∧ k_ ≠ aH ∧ k_ ≠ ax ∧ k_ ≠ ap ∧ some k_ ≠ (dA : Value).ownBlock) (Kd.V_keptB (ab.out) hkp (fun k_ hk_ hs_ => (hk_.2.1) hs_)) (fun k_ hk_ => ⟨hk_.1.1, hk_.1.2.2.2.2.2.2, hk_.1.2.2.1, hk_.1.2.2.2.1, hk_.1.2.2.2.2.1, hk_.1.2.2.2.2.2.1, fun e_ => Or.elim (ho0.1 k_ e_.symm) (fun hs_ => hk_.2.1 hs_) (fun hn_ => Nat.not_le.2 hk_.2.2 hn_)⟩))
   replace ah := am (blk_kept (bT ah.out) hkp (fun hs_ => (fun e_ => (Kd.R_ne aP.out ah.out (by decide)) e_) hs_))
   replace ao := am (blk_kept (bT ao.out) hkp (fun hs_ => (fun e_ => (Kd.R_ne aP.out ao.out (by decide)) e_) hs_))
   replace au := am (blk_kept (bT au.out) hkp (fun hs_ => (fun e_ => (Kd.R_ne aP.out au.out (by decide)) e_) hs_))
   replace aA := am (blk_kept (bT aA.out) hkp (fun hs_ => (fun e_ => (Kd.R_ne aP.out aA.out (by decide)) e_) hs_))
   replace bX := am (Kd.R_mono (ok' := fun k_ => (w.heap.size ≤ k_) ∧ k_ ≠ aH) (Kd.R_keptB ((Kd.R_apart' bX.out (Kd.R_typed aP.out) (by decide))) hkp (fun k_ hk_ hs_ => (hk_.2) hs_)) (fun k_ hk_ => ⟨hk_.1.1.1, hk_.1.1.2⟩))
   have cY := am (Kd.R_mono (ok' := fun k_ => (w.heap.size ≤ k_)) ho0 (fun k_ hk_ => Or.elim hk_ (fun hs_ => (aP.out.1 k_ (hs_).symm)) (fun hn_ => (Nat.le_trans (below_size (eTx HB.out)) hn_))))
   replace HB := am (hb)
   clear aP
   obtain ⟨b1, b2, dB⟩ := Kd.R_slice bX.out
   (first | subst dB | (injection dB with f1_ f2_ f3_; have f4_ := f1_.symm; have f5_ := f3_.symm; clear f1_ f2_ f3_; subst f4_; subst f5_))
   obtain ⟨cb, cc, dC⟩ := Kd.R_slice cY.out
   (first | subst dC | (injection dC with f1_ f2_ f3_; have f4_ := f1_.symm; have f5_ := f3_.symm; clear f1_ f2_ f3_; subst f4_; subst f5_))
   refine hK.out _ _ ⟨cT aA 0, cT aA 1⟩ (fun hHeld => ?_)
   clear hK K
   refine mN 39 ?_
   refine last_ (i := 13) (N := none) (bA 16 16383) rfl rfl (one_of HT_.out rfK) (by decide) (fun K hK => ?_)
   obtain ⟨gp, gb⟩ := bxA aA
   have eK := bt.out
   have eL := bu.out
   have eM := aR.out
   have eN := bF.out
   have eO := bG.out
   have eP := bH.out
   refine skip_ (w1 := ?_) (by rfl) rfl ?_ ?_
   rotate_left
   ·go_simp
    rfl
   refine hK.out _ _ ?_
   clear hK K
   refine pT 14 41 (bA 16 32767) HT_.out ?_
   refine last_ (i := 15) (N := none) (bA 16 65535) rfl rfl (one_of HT_.out rfK) (by decide) (fun K hK => ?_)
   have gq : w30.cell? ⟨ap, 1, none⟩ = some (.slice aW aM.length aX) := cT aA 1
   have gc := blk_frozen aA.out 1
   have eQ := bt.out
   have eR := bu.out
   have eS := aR.out
   have eV := bF.out
   have eW := bG.out
   have eX := bH.out
   refine skip_ (w1 := ?_) (by rfl) rfl ?_ ?_
   rotate_left
   ·go_simp
    rfl
   refine hK.out _ _ ?_
   clear hK K
   refine done_ (done_of HT_.out rfK) ?_
   obtain ⟨eY, eZ, e0, e1⟩ := bxB aA
   obtain ⟨e2, e3, e4, e5⟩ := bxB au
   try go_wp2
   refine bodyPost_ret (results_ct rfl _ _ ax 25 #[.slice b1 bx.length b2, .slice cb bz.length cc] (0, 0) _ rfl kBk Tryz.underlying25 rfl rfK) rfl ?_
   exact ⟨_, _, rfF, Kd.V_mono (Kd.R_V (by (with_reducible repeat (first | apply Kd.R_alloc | apply Kd.R_drewN | apply Kd.R_drew)); exact Kd.R_mono (Kd.R_far (p := ⟨ax, 1, none⟩) (Kd.R_far (p := ⟨ax, 0, none⟩) (Kd.R_far (p := ⟨ap, 1, none⟩) (Kd.R_far (p := ⟨ap, 0, none⟩) (Kd.R_types (Kd.R_types bX.out aA.out (by decide)) au.out (by decide)) (fun _ hk => hk.1.2) (.slice b1 bx.length b2)) (fun _ hk => hk.1.2) (.slice cb bz.length cc)) (fun _ hk => hk.2) (.slice b1 bx.length b2)) (fun _ hk => hk.2) (.slice cb bz.length cc)) (fun _ hk => hk.1.1.1))) (fun k_ hk => by first | exact ⟨(.inr (hk.1)), hk.2⟩ | exact (.inr (hk))), Kd.V_mono (Kd.R_V (by (with_reducible repeat (first | apply Kd.R_alloc | apply Kd.R_drewN | apply Kd.R_drew)); exact Kd.R_mono (Kd.R_far (p := ⟨ax, 1, none⟩) (Kd.R_far (p := ⟨ax, 0, none⟩) (Kd.R_far (p := ⟨ap, 1, none⟩) (Kd.R_far (p := ⟨ap, 0, none⟩) (Kd.R_types (Kd.R_types cY.out aA.out (by decide)) au.out (by decide)) (fun _ hk => hk.1.2) (.slice b1 bx.length b2)) (fun _ hk => hk.1.2) (.slice cb bz.length cc)) (fun _ hk => hk.2) (.slice b1 bx.length b2)) (fun _ hk => hk.2) (.slice cb bz.length cc)) (fun _ hk => hk.1.1))) (fun k_ hk => by first | exact ⟨(.inr (hk.1)), hk.2⟩ | exact (.inr (hk))), eTx HB.out⟩
  ·simp only [Option.some.injEq, Prod.mk.injEq] at H
   obtain ⟨rfl, rfl, rfl⟩ := H
   go_enter Tryz.func8, Tryz.ntmps8
   go_wp2_with (first | ((with_reducible refine gtD 2 ?_); refine xBx 2 25 #[.slice av l0_0.length aw, .slice ay l0_1.length az] ?_; intro aG hg w37 hbox hb; replace aa := am (Kd.V_below (Kd.V_elderB (vT aa.out) aG (Nat.le_of_eq hg.symm)) hb); replace ab := am (Kd.V_below (Kd.V_elderB (vT ab.out) aG (Nat.le_of_eq hg.symm)) hb); have ah := am (hbox); have cQ := am ((gTx hg HB.out)); have cR := am ((gTx hg HB.out)); replace HB := am (sTx HB.out hb); clear hb hbox hg) | ((with_reducible refine gtD 3 ?_); refine xBx 3 27 #[.string a1_0, .string a1_1] ?_; intro aH hg w38 hbox hb; replace aa := am (Kd.V_below (Kd.V_elderB (vT aa.out) aH (Nat.le_of_eq hg.symm)) hb); replace ab := am (Kd.V_below (Kd.V_elderB (vT ab.out) aH (Nat.le_of_eq hg.symm)) hb); have ao := am (hbox); have cS := am ((gTx hg HB.out)); have cU := am ((gTx hg HB.out)); have bm := am ((nT ah.out hg)); have bo := am ((mT ah.out hg)); replace ah := am (bB ah.out hb); replace HB := am (sTx HB.out hb); clear hb hbox hg) | ((with_reducible refine gtD 4 ?_); refine xBx 4 25 #[.slice none 0 0, .slice none 0 0] ?_; intro ax hg w39 hbox hb; replace aa := am (Kd.V_below (Kd.V_elderB (vT aa.out) ax (Nat.le_of_eq hg.symm)) hb); replace ab := am (Kd.V_below (Kd.V_elderB (vT ab.out) ax (Nat.le_of_eq hg.symm)) hb); have au := am (hbox); have cV := am ((gTx hg HB.out)); have cX := am ((gTx hg HB.out)); have bp := am ((nT ah.out hg)); have bq := am ((mT ah.out hg)); have br := am ((nT ao.out hg)); have bs := am ((mT ao.out hg)); replace ah := am (bB ah.out hb); replace ao := am (bB ao.out hb); replace HB := am (sTx HB.out hb); clear hb hbox hg; have dk := bm.out; have dl := bo.out; have dm := bp.out; have dn := bq.out; obtain ⟨cn, co, cp, cq⟩ := bxB ah; have dp := br.out; have dq := bs.out; obtain ⟨cr, ct, cu, cv⟩ := bxB ao) | ((with_reducible refine gtC 21 ?_); refine xCb 13 Tryz.func21 (store_find.calls k _ _ l0_0 _ _ l0_1 a1_0 a1_1 aY false bO _ (cW (Kd.V_reads' aa.out).2.2) ((Kd.V_reads' aa.out).2.1) (cW (Kd.V_reads' ab.out).2.2) ((Kd.V_reads' ab.out).2.1) A3.out) fun w45 hb => ?_; replace aa := am (vB aa.out hb); replace ab := am (vB ab.out hb); replace ah := am (bB ah.out hb); replace ao := am (bB ao.out hb); replace au := am (bB au.out hb); replace HB := am (sTx HB.out hb); obtain ⟨cw, cx, cy, cz⟩ := bxB ah; obtain ⟨e6, e7, e8, e9⟩ := bxB au))
   refine bodyPost_ret (results_ct rfl _ _ ax 25 #[.slice av l0_0.length aw, .slice ay l0_1.length az] (0, 0) _ rfl kBk Tryz.underlying25 rfl rfK) rfl ?_
   exact ⟨_, _, rfF, by (with_reducible repeat (first | apply Kd.V_alloc | apply Kd.V_drewN | apply Kd.V_drew)); exact Kd.V_mono (Kd.V_far (p := ⟨ax, 1, none⟩) (Kd.V_far (p := ⟨ax, 0, none⟩) (Kd.V_mono aa.out (fun k_ hk => (⟨hk, hk.2⟩ : _ ∧ k_ ≠ ax))) (fun _ hk => hk.2) (.slice av l0_0.length aw)) (fun _ hk => hk.2) (.slice ay l0_1.length az)) (fun _ hk => hk.1.1.1.1), by (with_reducible repeat (first | apply Kd.V_alloc | apply Kd.V_drewN | apply Kd.V_drew)); exact Kd.V_mono (Kd.V_far (p := ⟨ax, 1, none⟩) (Kd.V_far (p := ⟨ax, 0, none⟩) (Kd.V_mono ab.out (fun k_ hk => (⟨hk, hk.2⟩ : _ ∧ k_ ≠ ax))) (fun _ hk => hk.2) (.slice av l0_0.length aw)) (fun _ hk => hk.2) (.slice ay l0_1.length az)) (fun _ hk => hk.1.1.1.1), eTx HB.out⟩
 ·have fw := beq_eq_false_iff_ne.mpr c4
  have fx := bne_iff_ne.mpr c4
  simp only [Option.some.injEq, Prod.mk.injEq] at H
  obtain ⟨rfl, rfl, rfl⟩ := H
  go_enter Tryz.func8, Tryz.ntmps8
  go_wp2_with (first | ((with_reducible refine gtD 2 ?_); refine xBx 2 25 #[.slice av l0_0.length aw, .slice ay l0_1.length az] ?_; intro aG hg w48 hbox hb; replace aa := am (Kd.V_below (Kd.V_elderB (vT aa.out) aG (Nat.le_of_eq hg.symm)) hb); replace ab := am (Kd.V_below (Kd.V_elderB (vT ab.out) aG (Nat.le_of_eq hg.symm)) hb); have ah := am (hbox); have cQ := am ((gTx hg HB.out)); have cR := am ((gTx hg HB.out)); replace HB := am (sTx HB.out hb); clear hb hbox hg) | ((with_reducible refine gtD 3 ?_); refine xBx 3 27 #[.string a1_0, .string a1_1] ?_; intro aH hg w49 hbox hb; replace aa := am (Kd.V_below (Kd.V_elderB (vT aa.out) aH (Nat.le_of_eq hg.symm)) hb); replace ab := am (Kd.V_below (Kd.V_elderB (vT ab.out) aH (Nat.le_of_eq hg.symm)) hb); have ao := am (hbox); have cS := am ((gTx hg HB.out)); have cU := am ((gTx hg HB.out)); have bm := am ((nT ah.out hg)); have bo := am ((mT ah.out hg)); replace ah := am (bB ah.out hb); replace HB := am (sTx HB.out hb); clear hb hbox hg) | ((with_reducible refine gtD 4 ?_); refine xBx 4 25 #[.slice none 0 0, .slice none 0 0] ?_; intro ax hg w50 hbox hb; replace aa := am (Kd.V_below (Kd.V_elderB (vT aa.out) ax (Nat.le_of_eq hg.symm)) hb); replace ab := am (Kd.V_below (Kd.V_elderB (vT ab.out) ax (Nat.le_of_eq hg.symm)) hb); have au := am (hbox); have cV := am ((gTx hg HB.out)); have cX := am ((gTx hg HB.out)); have bp := am ((nT ah.out hg)); have bq := am ((mT ah.out hg)); have br := am ((nT ao.out hg)); have bs := am ((mT ao.out hg)); replace ah := am (bB ah.out hb); replace ao := am (bB ao.out hb); replace HB := am (sTx HB.out hb); clear hb hbox hg; have dr := bm.out; have dt := bo.out; have du := bp.out; have dv := bq.out; obtain ⟨cA, cB, cC, cD⟩ := bxB ah; have gd := br.out; have ge := bs.out; obtain ⟨fa, fb, fc, fd⟩ := bxB ao) | ((with_reducible refine gtC 21 ?_); refine xCb 13 Tryz.func21 (store_find.calls k _ _ l0_0 _ _ l0_1 a1_0 a1_1 aY c0 bO _ (cW (Kd.V_reads' aa.out).2.2) ((Kd.V_reads' aa.out).2.1) (cW (Kd.V_reads' ab.out).2.2) ((Kd.V_reads' ab.out).2.1) A3.out) fun w56 hb => ?_; replace aa := am (vB aa.out hb); replace ab := am (vB ab.out hb); replace ah := am (bB ah.out hb); replace ao := am (bB ao.out hb); replace au := am (bB au.out hb); replace HB := am (sTx HB.out hb); obtain ⟨fe, ff, fg, fh⟩ := bxB ah; obtain ⟨fi, fj, fk, fl⟩ := bxB au))
  refine bodyPost_ret (results_ct rfl _ _ ax 25 #[.slice av l0_0.length aw, .slice ay l0_1.length az] (0, 0) _ rfl kBk Tryz.underlying25 rfl rfK) rfl ?_
  exact ⟨_, _, rfF, by (with_reducible repeat (first | apply Kd.V_alloc | apply Kd.V_drewN | apply Kd.V_drew)); exact Kd.V_mono (Kd.V_far (p := ⟨ax, 1, none⟩) (Kd.V_far (p := ⟨ax, 0, none⟩) (Kd.V_mono aa.out (fun k_ hk => (⟨hk, hk.2⟩ : _ ∧ k_ ≠ ax))) (fun _ hk => hk.2) (.slice av l0_0.length aw)) (fun _ hk => hk.2) (.slice ay l0_1.length az)) (fun _ hk => hk.1.1.1.1), by (with_reducible repeat (first | apply Kd.V_alloc | apply Kd.V_drewN | apply Kd.V_drew)); exact Kd.V_mono (Kd.V_far (p := ⟨ax, 1, none⟩) (Kd.V_far (p := ⟨ax, 0, none⟩) (Kd.V_mono ab.out (fun k_ hk => (⟨hk, hk.2⟩ : _ ∧ k_ ≠ ax))) (fun _ hk => hk.2) (.slice av l0_0.length aw)) (fun _ hk => hk.2) (.slice ay l0_1.length az)) (fun _ hk => hk.1.1.1.1), eTx HB.out⟩

end Go.Proofs.YtomjppafgalaoaaGreatDoor.P
