import Derived.Test.YtjadpeahoaogcaaDoorGVersionOrder
import Derived.Test.YtjadpeahoaogcaaDoorVer
namespace Go.Proofs.YtjadpeahoaogcaaDoor.Pure
open Go.RowKit Go.Proofs.YtjadpeahoaogcaaDoor.P Go.Proofs.YtjadpeahoaogcaaDoor.Q Go.Proofs.YtjadpeahoaogcaaDoorB Go.Proofs.YtjadpeahoaogcaaDoorW.PrintWords Go.Proofs.YtjadpeahoaogcaaDoorW.PrintLast Go.Proofs.YtjadpeahoaogcaaDoorW.PrintMore
theorem VersionOrder : graftwoodlaw03_VersionOrder.Goal := by
  intro a b c _ _ _
  refine Ev.rounds (g := fun k => graftwoodlaw03_VersionOrder.f k a b c) ?_
  unfold graftwoodlaw03_VersionOrder.f
  have hA := few_size a
  have hB := few_size b
  have hC := few_size c
  simp only [Few_eq, Option.bind_some]
  generalize few a = A at *
  generalize few b = B at *
  generalize few c = C at *
  refine ev_bind (verCmp_ev A B (by omega) (by omega)) (ev_bind (verCmp_ev B A (by omega) (by omega)) (ev_bind (verCmp_ev B C (by omega) (by omega)) (ev_bind (verCmp_ev A C (by omega) (by omega)) ?_)))
  have hbad : (verOk (L A) && verOk (L B) && verOk (L C)) = false → ∀ x y z u v : Int, Ev (fun k => graftwoodlaw03_VersionOrder.j0 k A B C x y z u v true) true := by
    intro h x y z u v
    refine ev_step (fun k => by rw [graftwoodlaw03_VersionOrder.j0]) ?_
    refine ev_pos rfl (ev_bind (verMay_ev A (by omega)) ?_)
    refine ev_ite (fun h1 => ?_) (fun _ => ev_last awake3_ev)
    refine ev_bind (verMay_ev B (by omega)) ?_
    refine ev_ite (fun h2 => ?_) (fun _ => ev_last awake3_ev)
    refine ev_bind (verMay_ev C (by omega)) ?_
    refine ev_ite (fun h3 => ?_) (fun _ => ev_last awake3_ev)
    rw [h1, h2, h3] at h
    cases h
  cases ha : splitL (L A) with
  | none =>
    have hn : verOk (L A) = false := by unfold verOk; rw [ha]; rfl
    rw [hn] at hbad
    refine ev_neg (by simp [cmpR]) (hbad rfl _ _ _ _ _)
  | some x =>
    cases hb : splitL (L B) with
    | none =>
      have hn : verOk (L B) = false := by unfold verOk; rw [hb]; rfl
      rw [hn, Bool.and_false] at hbad
      refine ev_neg (by simp [cmpR]) (hbad rfl _ _ _ _ _)
    | some y =>
      refine ev_pos rfl ?_
      cases hc : splitL (L C) with
      | none =>
        have hn : verOk (L C) = false := by unfold verOk; rw [hc]; rfl
        rw [hn, Bool.and_false] at hbad
        refine ev_neg (by simp [cmpR]) (hbad rfl _ _ _ _ _)
      | some z =>
        refine ev_pos rfl ?_
        refine ev_step (fun k => by rw [graftwoodlaw03_VersionOrder.j0]) ?_
        refine ev_neg (by simp [cmpR]) (ev_pos rfl ?_)
        simp only [cmpR]
        have r1 := verC_range x y
        have f1 := tot_ver.flip y x
        have t1 := tot_ver.trans x y z
        have t2 := @Tot.strictL _ _ tot_ver x y z
        have t3 := @Tot.strictR _ _ tot_ver x y z
        have e1 := verC_text ha hb
        refine ev_pos (by rw [w_id (by omega) (by omega)]; omega) ?_
        refine ev_pos (by
          rw [beq_iff_eq, Bool.eq_iff_iff, beq_iff_eq, beq_iff_eq, e1, toList_L, toList_L]) ?_
        have g1 : verC x y > 0 ∨ verC y z > 0 ∨ verC x z ≤ 0 := by
          by_cases h1 : verC x y > 0
          · exact .inl h1
          · by_cases h2 : verC y z > 0
            · exact .inr (.inl h2)
            · exact .inr (.inr (t1 (by omega) (by omega)))
        have g2 : verC x y ≥ 0 ∨ verC y z > 0 ∨ verC x z < 0 := by
          by_cases h1 : verC x y ≥ 0
          · exact .inl h1
          · by_cases h2 : verC y z > 0
            · exact .inr (.inl h2)
            · exact .inr (.inr (t2 (by omega) (by omega)))
        have g3 : verC x y > 0 ∨ verC y z ≥ 0 ∨ verC x z < 0 := by
          by_cases h1 : verC x y > 0
          · exact .inl h1
          · by_cases h2 : verC y z ≥ 0
            · exact .inr (.inl h2)
            · exact .inr (.inr (t3 (by omega) (by omega)))
        clear t1 t2 t3 e1 f1
        repeat' first
        | exact ev_last awake3_ev
        | (exfalso; omega)
        | refine ev_ite (fun _ => ?_) (fun _ => ?_)
end Go.Proofs.YtjadpeahoaogcaaDoor.Pure
