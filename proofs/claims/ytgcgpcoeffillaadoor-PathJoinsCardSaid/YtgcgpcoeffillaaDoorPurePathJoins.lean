import Derived.Test.YtgcgpcoeffillaaDoorGPathJoins
import Derived.Test.YtgcgpcoeffillaaDoorPath
namespace Go.Proofs.YtgcgpcoeffillaaDoor.Pure
open Go.RowKit Go.Proofs.YtgcgpcoeffillaaDoor.P Go.Proofs.YtgcgpcoeffillaaDoor.Q Go.Proofs.YtgcgpcoeffillaaDoorB Go.Proofs.YtgcgpcoeffillaaDoorW.PrintWords Go.Proofs.YtgcgpcoeffillaaDoorW.PrintLast Go.Proofs.YtgcgpcoeffillaaDoorW.PrintMore
theorem rdOf_snoc (p : List ByteArray) (t d : ByteArray) : rdOf d (p ++ [t]) (p.length : Int) = t := by
  rw [rdOf_at d (p ++ [t]) p.length (by simp)]
  simp
theorem PathJoins_loop (x : List ByteArray) (d : Nat) : ∀ (i : Nat) (p : List ByteArray) (b : Bool) (j : ByteArray), i + d = min x.length 8 → p.length = i → (∀ s, s ∈ p → s.size ≤ 400) → b = (decide ((x.length : Int) > 0) && p.all fun s => elemL (L s)) → L j = joinL 47 (p.map L) → Ev (fun k => graftwoodlaw04_PathJoins.l0 k x p b j i) true := by
  induction d with
  | zero =>
    intro i p b j hi hp hs hb hj
    have hjs := joinL_small 47 400 (p.map L) (by
      intro y hy
      obtain ⟨s, hs', rfl⟩ := List.mem_map.1 hy
      rw [L_size]; exact hs s hs')
    rw [List.length_map] at hjs
    have hJ := Join_ev p (by omega) (by omega) (fun s h => by have := hs s h; omega)
    have hend : Ev (fun k => graftwoodlaw04_PathJoins.j1 k x p b j i false) true := by
      refine ev_step (fun k => by rw [graftwoodlaw04_PathJoins.j1]) ?_
      refine ev_neg (by decide) ?_
      cases hb2 : b with
      | true =>
        rw [hb2] at hb
        simp only [Bool.true_eq, Bool.and_eq_true, decide_eq_true_eq] at hb
        have hne : p.isEmpty = false := by
          cases p with
          | nil => simp only [List.length_nil] at hp; omega
          | cons => rfl
        have hv : joinedL p = (j, 0) := by
          unfold joinedL
          rw [hb.2, hne, ← hj, mk_L]
          rfl
        rw [hv] at hJ
        exact ev_bind hJ (ev_pos rfl (ev_pos rfl (ev_pos rfl (ev_last awake4_ev))))
      | false =>
        rw [hb2] at hb
        have hv : joinedL p = (⟨#[]⟩, 1) := by
          unfold joinedL
          by_cases h0 : (x.length : Int) > 0
          · rw [decide_eq_true h0, Bool.true_and] at hb
            rw [← hb]; rfl
          · have hpn : p = [] := List.eq_nil_of_length_eq_zero (by omega)
            subst hpn; rfl
        rw [hv] at hJ
        exact ev_bind hJ (ev_neg (by decide) (ev_pos (by rw [toList_L]; rfl) (ev_pos rfl (ev_last awake4_ev))))
    refine ev_step (fun k => by rw [graftwoodlaw04_PathJoins.l0]) ?_
    refine ev_ite (fun h => ?_) (fun _ => hend)
    have h8 : decide ((i : Int) < 8) = false := by rw [decide_eq_false_iff_not]; omega
    rw [h8]
    exact hend
  | succ d ih =>
    intro i p b j hi hp hs hb hj
    have hil : i < x.length := by omega
    have hjs := joinL_small 47 400 (p.map L) (by
      intro y hy
      obtain ⟨s, hs', rfl⟩ := List.mem_map.1 hy
      rw [L_size]; exact hs s hs')
    rw [List.length_map, ← hj, L_size] at hjs
    refine ev_step (fun k => by rw [graftwoodlaw04_PathJoins.l0]) ?_
    refine ev_pos (by omega) ?_
    have h8 : decide ((i : Int) < 8) = true := by rw [decide_eq_true_eq]; omega
    rw [h8]
    refine ev_step (fun k => by rw [graftwoodlaw04_PathJoins.j1]) ?_
    refine ev_pos rfl (ev_pos (by omega) (ev_pos (by omega) ?_))
    rw [rdOf_at _ x i hil, Few_eq]
    have hF := few_size x[i]
    generalize few x[i] = t at *
    refine ev_some (ev_pos (by omega) (ev_some ?_))
    have hrd : rdOf ByteArray.empty (p ++ [t]) (i : Int) = t := by rw [← hp]; exact rdOf_snoc p t _
    rw [hrd, w_succ i (by omega)]
    have hgo : ∀ (b' : Bool) (j' : ByteArray), b' = (b && elemL (L t)) → L j' = joinL 47 ((p ++ [t]).map L) → Ev (fun k => graftwoodlaw04_PathJoins.l0 k x (p ++ [t]) b' j' ((i + 1 : Nat) : Int)) true := by
      intro b' j' hb' hj'
      refine ih (i + 1) (p ++ [t]) b' j' (by omega) (by simp [hp]) (fun s h => ?_) ?_ hj'
      · rcases List.mem_append.1 h with h | h
        · exact hs s h
        · simp only [List.mem_singleton] at h; subst h; exact hF
      · rw [hb', hb, List.all_append]; simp [Bool.and_assoc]
    have hj1 : ∀ h0 : (i : Int) > 0, L ((j ++ (⟨#[47]⟩ : ByteArray)) ++ t) = joinL 47 ((p ++ [t]).map L) := by
      intro h0
      rw [L_slash, hj, List.map_append, List.map_cons, List.map_nil, joinL_snoc]
      intro h
      have := congrArg List.length h
      rw [List.length_map, List.length_nil] at this
      omega
    have hj2 : ¬ (i : Int) > 0 → L (j ++ t) = joinL 47 ((p ++ [t]).map L) := by
      intro h0
      have hpn : p = [] := List.eq_nil_of_length_eq_zero (by omega)
      subst hpn
      rw [L_append, hj]; rfl
    have hlen : ((p ++ [t]).length : Int) = i + 1 := by rw [List.length_append, List.length_singleton, hp]; rfl
    have hz : (j ++ (⟨#[47]⟩ : ByteArray)).size = j.size + 1 := by rw [size_app]; rfl
    cases hb2 : b with
    | true =>
      refine ev_pos rfl (ev_pos (by omega) (ev_bind (refElem_ev t (by omega)) ?_))
      refine ev_ite (fun h0 => ?_) (fun h0 => ?_)
      · exact ev_pos (by omega) (ev_pos (by omega) (hgo _ _ (by rw [hb2]; rfl) (hj1 h0)))
      · exact ev_pos (by omega) (hgo _ _ (by rw [hb2]; rfl) (hj2 h0))
    | false =>
      refine ev_neg (by decide) ?_
      refine ev_ite (fun h0 => ?_) (fun h0 => ?_)
      · exact ev_pos (by omega) (ev_pos (by omega) (ev_pos (by omega) (hgo _ _ (by rw [hb2]; rfl) (hj1 h0))))
      · exact ev_pos (by omega) (ev_pos (by omega) (hgo _ _ (by rw [hb2]; rfl) (hj2 h0)))
theorem PathJoins : graftwoodlaw04_PathJoins.Goal := by
  intro x hx
  refine Ev.rounds (g := fun k => graftwoodlaw04_PathJoins.f k x) ?_
  unfold graftwoodlaw04_PathJoins.f
  exact PathJoins_loop x (min x.length 8) 0 [] _ _ (by omega) rfl (by simp) (by simp) rfl
end Go.Proofs.YtgcgpcoeffillaaDoor.Pure
