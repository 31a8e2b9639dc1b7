/-
  The pure statement of OctetParts: parts, put together, are the text; none has what parts them; there is one more than of these. No condition.
-/
import Derived.Test.YtfhdbhocichpiaaDoorGOctetParts
import Derived.Test.YtfhdbhocichpiaaDoorOct
namespace Go.Proofs.YtfhdbhocichpiaaDoor.Pure
open Go.RowKit Go.Proofs.YtfhdbhocichpiaaDoor.P Go.Proofs.YtfhdbhocichpiaaDoor.Q Go.Proofs.YtfhdbhocichpiaaDoorB Go.Proofs.YtfhdbhocichpiaaDoorW.PrintWords Go.Proofs.YtfhdbhocichpiaaDoorW.PrintLast Go.Proofs.YtfhdbhocichpiaaDoorW.PrintMore
namespace OctetParts_
theorem joinL_snoc (c : UInt8) (x : List UInt8) : ∀ l : List (List UInt8), l ≠ [] → joinL c (l ++ [x]) = joinL c l ++ c :: x
  | [], h => absurd rfl h
  | [y], _ => rfl
  | y :: z :: l, _ => by
    have ih := joinL_snoc c x (z :: l) (by simp)
    rw [List.cons_append, joinL_cons c y _ (by simp), ih, joinL_cons c y (z :: l) (by simp)]
    simp
theorem joinL_len (c : UInt8) (M : Nat) : ∀ l : List (List UInt8), (∀ p, p ∈ l → p.length ≤ M) → (joinL c l).length ≤ l.length * (M + 1)
  | [], _ => by simp [joinL]
  | [y], h => by have := h y (by simp); simp [joinL]; omega
  | y :: z :: l, h => by
    have ih := joinL_len c M (z :: l) (fun p hp => h p (by simp at hp ⊢; exact .inr hp))
    have hy := h y (by simp)
    rw [joinL_cons c y _ (by simp)]
    simp only [List.length_append, List.length_cons] at ih ⊢
    rw [Nat.add_mul]
    omega
theorem parts_len (c : UInt8) : ∀ (l : List UInt8) (p : List UInt8), p ∈ partsL c l → p.length ≤ l.length
  | [], p, hp => by simp [partsL] at hp; simp [hp]
  | b :: l, p, hp => by
    have ih := parts_len c l
    obtain ⟨x, t, hx⟩ := partsL_split c l
    rw [partsL, hx] at hp
    rw [hx] at ih
    by_cases h : b = c
    · rw [if_pos h] at hp
      rcases List.mem_cons.1 hp with rfl | hp
      · simp
      · have := ih p hp; simp; omega
    · rw [if_neg h] at hp
      rcases List.mem_cons.1 hp with rfl | hp
      · have := ih x (by simp); simpa using this
      · have := ih p (by simp at hp ⊢; exact .inr hp); simp; omega
variable (S : ByteArray) (c : UInt8) (hS : (L S).length ≤ 400)
include hS
theorem count_loop (x6 : ByteArray) (h6 : L x6 = L S) (d : Nat) : ∀ (i m : Nat), i + d = (L S).length → m = ((L S).take i).count c → Ev (fun k => graftwoodlaw01_OctetParts.l2 k S (c.toNat : Int) (partsB c S) x6 m i) true := by
  have sz := L_size S
  induction d with
  | zero =>
    intro i m hi hm
    refine ev_step (fun k => by rw [graftwoodlaw01_OctetParts.l2]) ?_
    refine ev_neg (by omega) ?_
    refine ev_pos ((eq_iff_L _ _).2 h6) ?_
    rw [List.take_of_length_le (by omega)] at hm
    have hcl := List.count_le_length (a := c) (l := L S)
    rw [w_succ m (by omega)]
    refine ev_pos (by rw [partsB_length, partsL_count, hm]) ?_
    exact ev_last (ev_const awake_eq)
  | succ d ih =>
    intro i m hi hm
    have hil : i < (L S).length := by omega
    have hml : m ≤ 400 := by
      have h1 := List.count_le_length (a := c) (l := (L S).take i)
      have h2 : ((L S).take i).length ≤ i := List.length_take_le _ _
      omega
    refine ev_step (fun k => by rw [graftwoodlaw01_OctetParts.l2]) ?_
    refine ev_pos (by omega) (ev_pos (by omega) ?_)
    rw [bt_L S i hil, w_succ i (by omega), w_succ m (by omega)]
    have ht : (L S).take (i + 1) = (L S).take i ++ [(L S)[i]] := List.take_succ_eq_append_getElem hil
    refine ev_ite (fun h => ?_) (fun h => ?_)
    · have hx : (L S)[i] = c := UInt8.toNat_inj.1 (by omega)
      exact ih (i + 1) (m + 1) (by omega) (by rw [ht, List.count_append, hx, ← hm]; simp)
    · have hx : ¬ (L S)[i] = c := fun e => h (by rw [e])
      exact ih (i + 1) m (by omega) (by rw [ht, List.count_append, ← hm, List.count_singleton]; simp [hx])
theorem part_loop (x6 : ByteArray) (i : Nat) (hi : i < (partsB c S).length) (hnext : Ev (fun k => graftwoodlaw01_OctetParts.l0 k S (c.toNat : Int) (partsB c S) x6 0 ((i + 1 : Nat) : Int)) true) (d : Nat) :
    ∀ j : Nat, j + d = (L (partsB c S)[i]).length → Ev (fun k => graftwoodlaw01_OctetParts.l1 k S (c.toNat : Int) (partsB c S) x6 0 i j) true := by
  have hil : i < (partsL c (L S)).length := by rw [← partsB_length]; exact hi
  have hp : (partsB c S)[i] = ⟨((partsL c (L S))[i]).toArray⟩ := by simp [partsB]
  have hfree : c ∉ L (partsB c S)[i] := by rw [hp]; exact partsL_free c (L S) _ (List.getElem_mem _)
  have hlen : (L (partsB c S)[i]).length ≤ 400 := by
    rw [hp]
    have := parts_len c (L S) _ (List.getElem_mem (l := partsL c (L S)) hil)
    rw [L_mk]; omega
  have hnum : (partsB c S).length ≤ 401 := by rw [partsB_length]; have := (partsL_length c (L S)).1; omega
  have sz := L_size (partsB c S)[i]
  induction d with
  | zero =>
    intro j hj
    refine ev_step (fun k => by rw [graftwoodlaw01_OctetParts.l1]) ?_
    rw [rdOf_at _ _ i hi]
    refine ev_pos (by omega) (ev_pos (by omega) (ev_neg (by omega) ?_))
    rw [w_succ i (by omega)]
    exact hnext
  | succ d ih =>
    intro j hj
    have hjl : j < (L (partsB c S)[i]).length := by omega
    refine ev_step (fun k => by rw [graftwoodlaw01_OctetParts.l1]) ?_
    rw [rdOf_at _ _ i hi]
    refine ev_pos (by omega) (ev_pos (by omega) (ev_pos (by omega) (ev_pos (by omega) (ev_neg ?_ ?_))))
    · rw [bt_L _ j hjl]
      intro h
      apply hfree
      have : (L (partsB c S)[i])[j] = c := UInt8.toNat_inj.1 (by omega)
      have hm : (L (partsB c S)[i])[j] ∈ L (partsB c S)[i] := List.getElem_mem _
      rw [this] at hm
      exact hm
    · rw [w_succ j (by omega)]
      exact ih (j + 1) (by omega)
theorem text_loop (d : Nat) : ∀ (i : Nat) (x6 : ByteArray), i + d = (partsB c S).length → L x6 = joinL c ((partsL c (L S)).take i) → Ev (fun k => graftwoodlaw01_OctetParts.l0 k S (c.toNat : Int) (partsB c S) x6 0 i) true := by
  have hlenB : (partsB c S).length = (partsL c (L S)).length := partsB_length c S
  have hnum : (partsB c S).length ≤ 401 := by rw [hlenB]; have := (partsL_length c (L S)).1; omega
  have hsmall : ∀ i, (joinL c ((partsL c (L S)).take i)).length ≤ 160801 := fun i => by
    have h1 := joinL_len c 400 ((partsL c (L S)).take i) (fun p hp => by have := parts_len c (L S) p (List.mem_of_mem_take hp); omega)
    have h2 : ((partsL c (L S)).take i).length ≤ 401 := by rw [List.length_take]; omega
    have h3 := Nat.mul_le_mul_right 401 h2
    omega
  induction d with
  | zero =>
    intro i x6 hi h6
    rw [List.take_of_length_le (by omega), joinL_parts] at h6
    refine ev_step (fun k => by rw [graftwoodlaw01_OctetParts.l0]) ?_
    refine ev_neg (by omega) ?_
    exact count_loop S c hS x6 h6 (L S).length 0 0 (by omega) (by simp)
  | succ d ih =>
    intro i x6 hi h6
    have hil : i < (partsB c S).length := by omega
    have hp : (partsB c S)[i] = ⟨((partsL c (L S))[i]'(by omega)).toArray⟩ := by simp [partsB]
    have ht : (partsL c (L S)).take (i + 1) = (partsL c (L S)).take i ++ [(partsL c (L S))[i]'(by omega)] := List.take_succ_eq_append_getElem (by omega)
    have hgo : ∀ y : ByteArray, L y ++ L (partsB c S)[i] = joinL c ((partsL c (L S)).take (i + 1)) → Ev (fun k => graftwoodlaw01_OctetParts.j1 k S (c.toNat : Int) (partsB c S) y 0 i) true := by
      intro y hy
      have hs := hsmall (i + 1)
      rw [← hy, List.length_append, L_size, L_size] at hs
      refine ev_step (fun k => by rw [graftwoodlaw01_OctetParts.j1]) ?_
      rw [rdOf_at _ _ i hil]
      refine ev_pos (by omega) (ev_pos (by omega) (ev_pos (by omega) ?_))
      refine part_loop S c hS _ i hil ?_ _ 0 (by rw [Nat.zero_add])
      exact ih (i + 1) _ (by omega) (by rw [L_append, hy])
    have hs := hsmall i
    rw [← h6, L_size] at hs
    refine ev_step (fun k => by rw [graftwoodlaw01_OctetParts.l0]) ?_
    refine ev_pos (by omega) (ev_ite (fun h => ?_) (fun h => ?_))
    · refine ev_some ?_
      have hnm : L (strOfNums [(c.toNat : Int)]) = [c] := by
        show [UInt8.ofNat (c.toNat : Int).toNat] = [c]
        simp
      have hsz : (strOfNums [(c.toNat : Int)]).size = 1 := by rw [← L_size, hnm]; rfl
      refine ev_pos (by rw [hsz]; omega) (hgo _ ?_)
      rw [L_append, hnm, h6, ht, joinL_snoc c _ _ (by intro e; have := congrArg List.length e; rw [List.length_take, List.length_nil] at this; omega), hp]
      simp [L_mk]
    · have hi0 : i = 0 := by omega
      subst hi0
      refine hgo _ ?_
      rw [h6, ht, hp]
      simp [L_mk, joinL]
end OctetParts_
open OctetParts_
theorem OctetParts : graftwoodlaw01_OctetParts.Goal := by
  intro s c _ hc
  obtain ⟨h0, h1⟩ := u8_range hc
  have hcc : (c.toNat.toUInt8.toNat : Int) = c := by
    have : c.toNat.toUInt8.toNat = c.toNat := by
      show (UInt8.ofNat c.toNat).toNat = _
      rw [UInt8.toNat_ofNat']
      omega
    omega
  refine Ev.rounds (g := fun k => graftwoodlaw01_OctetParts.f k s c) ?_
  unfold graftwoodlaw01_OctetParts.f
  have hf := few_size s
  rw [Few_eq]
  refine ev_some ?_
  rw [Parts_eq _ _ h0 h1 (by omega)]
  refine ev_some ?_
  have h := text_loop (few s) c.toNat.toUInt8 (few_len s) (partsB c.toNat.toUInt8 (few s)).length 0 ⟨#[]⟩ (by omega) (by simp [joinL, L_empty])
  rw [hcc] at h
  exact h
end Go.Proofs.YtfhdbhocichpiaaDoor.Pure
