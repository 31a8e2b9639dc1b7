import Derived.Test.YtjadpeahoaogcaaDoorGVersionBack
import Derived.Test.YtjadpeahoaogcaaDoorVer
namespace Go.Proofs.YtjadpeahoaogcaaDoor.Pure
open Go.RowKit Go.Proofs.YtjadpeahoaogcaaDoor.P Go.Proofs.YtjadpeahoaogcaaDoor.Q Go.Proofs.YtjadpeahoaogcaaDoorB Go.Proofs.YtjadpeahoaogcaaDoorW.PrintWords Go.Proofs.YtjadpeahoaogcaaDoorW.PrintLast Go.Proofs.YtjadpeahoaogcaaDoorW.PrintMore
theorem VersionBack : graftwoodlaw03_VersionBack.Goal := by
  intro s vv _ _
  obtain ⟨a, b, c, l⟩ := vv
  refine Ev.rounds (g := fun k => graftwoodlaw03_VersionBack.f k s a b c l) ?_
  unfold graftwoodlaw03_VersionBack.f
  have hS := few_size s
  have hA := few_size a
  have hB := few_size b
  have hC := few_size c
  simp only [Few_eq, Option.bind_some]
  refine ev_bind (few3_ev a b c l) ?_
  simp only
  have hl : ((l.take 8).map few).length ≤ 8 := by rw [List.length_map, List.length_take]; omega
  have hm : ∀ x, x ∈ (l.take 8).map few → x.size ≤ 400 := by
    intro x hx
    obtain ⟨y, -, rfl⟩ := List.mem_map.1 hx
    exact few_size y
  generalize few s = S at *
  generalize few a = A at *
  generalize few b = B at *
  generalize few c = C at *
  generalize (l.take 8).map few = P at *
  -- the second half
  have hj : Ev (fun k => graftwoodlaw03_VersionBack.j0 k false A B C P) true := by
    refine ev_step (fun k => by rw [graftwoodlaw03_VersionBack.j0]) ?_
    refine ev_neg (by decide) ?_
    refine ev_bind (verJoin_ev A B C P (by omega) (by omega) (by omega) (by omega) (fun x hx => by have := hm x hx; omega)) ?_
    unfold joinR
    cases ho : verOkV ⟨L A, L B, L C, P.map L⟩ with
    | false =>
      simp only [Bool.false_eq_true, if_false]
      refine ev_bind (Split_ev _ (by decide)) (ev_neg (by decide) (ev_last awake3_ev))
    | true =>
      simp only [if_true]
      have hsz : (joinV ⟨L A, L B, L C, P.map L⟩).length ≤ 100000 := by
        have hj := joinL_small 46 400 (P.map L) (by
          intro y hy
          obtain ⟨x, hx, rfl⟩ := List.mem_map.1 hy
          rw [L_size]; exact hm x hx)
        rw [List.length_map] at hj
        unfold joinV
        simp only [List.length_cons, List.length_append, L_size]
        split
        · simp only [List.length_nil]; omega
        · simp only [List.length_cons]; omega
      have hsp := Split_ev (mkB (joinV ⟨L A, L B, L C, P.map L⟩)) (by rw [mkB_size]; omega)
      have hmy := verMay_ev (mkB (joinV ⟨L A, L B, L C, P.map L⟩)) (by rw [mkB_size]; omega)
      rw [L_mkB, split_of_join ho] at hsp
      unfold verOk at hmy
      rw [L_mkB, split_of_join ho] at hmy
      simp only [verR, mkB_L] at hsp
      have hP : (P.map L).map mkB = P := by
        rw [List.map_map]
        exact List.map_id'' mkB_L _
      rw [hP] at hsp
      refine ev_bind hsp (ev_pos rfl ?_)
      refine ev_bind (same3_ev A B C P A B C P (by omega)) (ev_pos (by simp) ?_)
      exact ev_bind hmy (ev_pos rfl (ev_last awake3_ev))
  -- the first half
  refine ev_bind (Split_ev S (by omega)) ?_
  cases hs : splitL (L S) with
  | none =>
    refine ev_bind (verJoin_ev _ _ _ _ (by decide) (by decide) (by decide) (by decide) (by simp [verR])) (ev_neg (by decide) hj)
  | some v =>
    have sv := splitL_sizes hs
    rw [L_size] at sv
    have hjo := verJoin_ev (mkB v.a) (mkB v.b) (mkB v.c) (v.p.map mkB) (by rw [mkB_size]; omega) (by rw [mkB_size]; omega) (by rw [mkB_size]; omega) (by rw [List.length_map]; omega) (fun x hx => by
      obtain ⟨y, hy, rfl⟩ := List.mem_map.1 hx
      have := sv.2.2.2.2 y hy
      rw [mkB_size]; omega)
    rw [map_L_mkB] at hjo
    have hv : (⟨L (mkB v.a), L (mkB v.b), L (mkB v.c), v.p⟩ : Ver) = v := rfl
    rw [hv] at hjo
    unfold joinR at hjo
    rw [split_ok hs, join_of_split hs] at hjo
    simp only [if_true, mkB_L] at hjo
    have hmy := verMay_ev S (by omega)
    unfold verOk at hmy
    rw [hs] at hmy
    refine ev_bind hjo (ev_pos rfl (ev_pos rfl (ev_pos rfl (ev_bind hmy ?_))))
    exact hj
end Go.Proofs.YtjadpeahoaogcaaDoor.Pure
