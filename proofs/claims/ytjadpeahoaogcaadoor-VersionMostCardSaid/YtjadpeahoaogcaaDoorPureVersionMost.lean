import Derived.Test.YtjadpeahoaogcaaDoorGVersionMost
import Derived.Test.YtjadpeahoaogcaaDoorVer
namespace Go.Proofs.YtjadpeahoaogcaaDoor.Pure
open Go.RowKit Go.Proofs.YtjadpeahoaogcaaDoor.P Go.Proofs.YtjadpeahoaogcaaDoor.Q Go.Proofs.YtjadpeahoaogcaaDoorB Go.Proofs.YtjadpeahoaogcaaDoorW.PrintWords Go.Proofs.YtjadpeahoaogcaaDoorW.PrintLast Go.Proofs.YtjadpeahoaogcaaDoorW.PrintMore
theorem Most_fill (x : List ByteArray) (d : Nat) : ∀ (i : Nat) (p : List ByteArray) (r : Bool), i + d = min x.length 12 → p.length = i → Ev (fun k => graftwoodlaw03_VersionMost.j1 k (p ++ ((x.take 12).drop i).map few) []) r → Ev (fun k => graftwoodlaw03_VersionMost.l0 k x p i) r := by
  induction d with
  | zero =>
    intro i p r hi hp h
    have hd : (x.take 12).drop i = [] := List.drop_eq_nil_of_le (by rw [List.length_take]; omega)
    rw [hd, List.map_nil, List.append_nil] at h
    refine ev_step (fun k => by rw [graftwoodlaw03_VersionMost.l0]) ?_
    exact ev_ite (fun _ => ev_neg (by omega) h) (fun _ => h)
  | succ d ih =>
    intro i p r hi hp h
    have hil : i < x.length := by omega
    refine ev_step (fun k => by rw [graftwoodlaw03_VersionMost.l0]) ?_
    refine ev_pos (by omega) (ev_pos (by omega) (ev_pos (by omega) ?_))
    rw [rdOf_at _ x i hil, Few_eq, w_succ i (by omega)]
    refine ev_some (ev_pos (by omega) ?_)
    have hd : (x.take 12).drop i = x[i] :: (x.take 12).drop (i + 1) := by
      rw [List.drop_eq_getElem_cons (by rw [List.length_take]; omega), List.getElem_take]
    rw [hd, List.map_cons] at h
    refine ih (i + 1) (p ++ [few x[i]]) r (by omega) (by simp [hp]) ?_
    rw [List.append_assoc]
    exact h
theorem Most_turn (x : List ByteArray) (hx : x.length ≤ 12) (r : Bool) (d : Nat) : ∀ (i : Nat) (p : List ByteArray), i = d → i ≤ x.length → p = (x.drop i).reverse → Ev (fun k => (version_Max.f k x).bind fun bt341 => ((version_Max.f k x.reverse).bind fun bt343 => (if bt341.1.toList = bt343.1.toList then (graftwoodlaw03_VersionMost.j3 k x bt341.1 bt341.2 (bt341.2 != bt343.2)) else (graftwoodlaw03_VersionMost.j3 k x bt341.1 bt341.2 true)))) r →
    Ev (fun k => graftwoodlaw03_VersionMost.l1 k x p ((i : Int) - 1)) r := by
  induction d with
  | zero =>
    intro i p hi _ hp h
    subst hi
    refine ev_step (fun k => by rw [graftwoodlaw03_VersionMost.l1]) ?_
    refine ev_neg (by omega) ?_
    rw [hp, List.drop_zero]
    exact h
  | succ d ih =>
    intro i p hi hil hp h
    have hlt : d < x.length := by omega
    have e : (i : Int) - 1 = (d : Int) := by omega
    rw [e]
    refine ev_step (fun k => by rw [graftwoodlaw03_VersionMost.l1]) ?_
    have hpl : p.length ≤ 12 := by rw [hp, List.length_reverse, List.length_drop]; omega
    refine ev_pos (by omega) (ev_pos (by omega) (ev_pos (by omega) (ev_pos (by omega) ?_)))
    rw [rdOf_at _ x d hlt, w_id (by omega) (by omega)]
    refine ih d (p ++ [x[d]]) rfl (by omega) ?_ h
    rw [List.drop_eq_getElem_cons hlt, List.reverse_cons, hp, hi]
theorem Most_last (x : List ByteArray) (m : ByteArray) (w : Ver) (hx : x.length ≤ 12) (hm : ∀ s, s ∈ x → s.size ≤ 400) (hms : m.size ≤ 400) (hw : splitL (L m) = some w) (hall : ∀ s, s ∈ x → ∃ v, splitL (L s) = some v ∧ verC v w ≤ 0) (d : Nat) : ∀ (i : Nat) (met : Bool), i + d = x.length → (met = true ∨ m ∈ x.drop i) →
    Ev (fun k => graftwoodlaw03_VersionMost.l2 k x m met i) true := by
  induction d with
  | zero =>
    intro i met hi h
    rw [List.drop_eq_nil_of_le (by omega)] at h
    have hmet : met = true := by
      rcases h with h | h
      · exact h
      · simp at h
    refine ev_step (fun k => by rw [graftwoodlaw03_VersionMost.l2]) ?_
    exact ev_neg (by omega) (ev_pos hmet (ev_last awake3_ev))
  | succ d ih =>
    intro i met hi h
    have hil : i < x.length := by omega
    obtain ⟨v, hv, hle⟩ := hall _ (List.getElem_mem hil)
    refine ev_step (fun k => by rw [graftwoodlaw03_VersionMost.l2]) ?_
    refine ev_pos (by omega) (ev_pos (by omega) ?_)
    rw [rdOf_at _ x i hil, w_succ i (by omega)]
    have hs := hm _ (List.getElem_mem hil)
    have hc := verCmp_ev x[i] m (by omega) (by omega)
    rw [hv, hw] at hc
    refine ev_bind hc (ev_pos rfl (ev_neg (by simp only [cmpR]; omega) ?_))
    rw [List.drop_eq_getElem_cons hil] at h
    refine ev_ite (fun hmet => ih (i + 1) true (by omega) (.inl rfl)) (fun hmet => ?_)
    refine ih (i + 1) _ (by omega) ?_
    rcases h with h | h
    · exact absurd h hmet
    · rcases List.mem_cons.1 h with h | h
      · left; rw [h]; simp
      · right; exact h
theorem VersionMost : graftwoodlaw03_VersionMost.Goal := by
  intro x _
  refine Ev.rounds (g := fun k => graftwoodlaw03_VersionMost.f k x) ?_
  unfold graftwoodlaw03_VersionMost.f
  refine Most_fill x (min x.length 12) 0 [] true (by omega) rfl ?_
  rw [List.drop_zero, List.nil_append]
  have hl : ((x.take 12).map few).length ≤ 12 := by rw [List.length_map, List.length_take]; omega
  have hm : ∀ y, y ∈ (x.take 12).map few → y.size ≤ 400 := by
    intro y hy
    obtain ⟨z, -, rfl⟩ := List.mem_map.1 hy
    exact few_size z
  generalize (x.take 12).map few = l at *
  refine ev_step (fun k => by rw [graftwoodlaw03_VersionMost.j1]) ?_
  rw [w_id (by omega) (by omega)]
  refine Most_turn l hl true l.length l.length [] rfl (Nat.le_refl _) (by simp) ?_
  refine ev_bind (Max_ev l (by omega) (fun s hs => by have := hm s hs; omega)) (ev_bind (Max_ev l.reverse (by rw [List.length_reverse]; omega) (fun s hs => by have := hm s (List.mem_reverse.1 hs); omega)) ?_)
  have hend : ∀ (m : ByteArray) (e : Int), e ≠ 0 → Ev (fun k => graftwoodlaw03_VersionMost.j3 k l m e false) true := by
    intro m e he
    refine ev_step (fun k => by rw [graftwoodlaw03_VersionMost.j3]) ?_
    exact ev_neg (by decide) (ev_neg he (ev_last awake3_ev))
  cases hv : l.all fun s => verOk (L s) with
  | false =>
    -- one is none: the same error either way
    have key : ∀ q : List ByteArray, (q.all fun s => verOk (L s)) = false → maxR q = (⟨#[]⟩, 1) := by
      intro q hq
      cases q with
      | nil => simp at hq
      | cons s t =>
        show maxGo s (s :: t) = _
        cases hs : splitL (L s) with
        | none =>
          unfold maxGo
          rw [hs]
        | some v => exact (maxGo_spec (s :: t) s v hs).2 hq
    rw [key l hv, key l.reverse (by rw [List.all_reverse]; exact hv)]
    exact ev_pos rfl (hend _ _ (by decide))
  | true =>
    cases hq : l with
    | nil =>
      rw [hq] at hend
      exact ev_pos rfl (hend _ _ (by decide))
    | cons s t =>
      rw [← hq]
      have key : ∀ q : List ByteArray, q ≠ [] → (q.all fun s => verOk (L s)) = true → ∃ m w, maxR q = (m, 0) ∧ m ∈ q ∧ splitL (L m) = some w ∧ ∀ s, s ∈ q → ∀ x, splitL (L s) = some x → verC x w ≤ 0 := by
        intro q hne hall
        cases q with
        | nil => exact absurd rfl hne
        | cons s t =>
          have hs : verOk (L s) = true := List.all_eq_true.1 hall s (by simp)
          unfold verOk at hs
          obtain ⟨v, hv⟩ := Option.isSome_iff_exists.1 hs
          obtain ⟨m, w, e1, e2, e3, -, e5⟩ := (maxGo_spec (s :: t) s v hv).1 hall
          refine ⟨m, w, e1, ?_, e3, e5⟩
          rcases e2 with rfl | e2
          · simp
          · exact e2
      obtain ⟨m, w, e1, e2, e3, e4⟩ := key l (by rw [hq]; simp) hv
      obtain ⟨m', w', e1', e2', e3', e4'⟩ := key l.reverse (by rw [hq]; simp) (by rw [List.all_reverse]; exact hv)
      have hmm : m = m' := by
        have h1 := e4 m' (List.mem_reverse.1 e2') w' e3'
        have h2 := e4' m (List.mem_reverse.2 e2) w e3
        have h3 := tot_ver.flip w w'
        exact L_inj ((verC_text e3 e3').1 (by omega))
      rw [e1, e1', hmm]
      refine ev_pos rfl ?_
      refine ev_step (fun k => by rw [graftwoodlaw03_VersionMost.j3]) ?_
      refine ev_neg (by simp) (ev_pos rfl ?_)
      rw [← hmm]
      refine Most_last l m w hl hm (hm m e2) e3 (fun s hs => ?_) l.length 0 false (by omega) (.inr (by rw [List.drop_zero]; exact e2))
      have hok : verOk (L s) = true := List.all_eq_true.1 hv s hs
      unfold verOk at hok
      obtain ⟨v, hv'⟩ := Option.isSome_iff_exists.1 hok
      exact ⟨v, hv', e4 s hs v hv'⟩
end Go.Proofs.YtjadpeahoaogcaaDoor.Pure
