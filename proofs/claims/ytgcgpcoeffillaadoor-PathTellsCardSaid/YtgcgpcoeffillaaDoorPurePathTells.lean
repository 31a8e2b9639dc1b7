import Derived.Test.YtgcgpcoeffillaaDoorGPathTells
import Derived.Test.YtgcgpcoeffillaaDoorPath
namespace Go.Proofs.YtgcgpcoeffillaaDoor.Pure
open Go.RowKit Go.Proofs.YtgcgpcoeffillaaDoor.P Go.Proofs.YtgcgpcoeffillaaDoor.Q Go.Proofs.YtgcgpcoeffillaaDoorB Go.Proofs.YtgcgpcoeffillaaDoorW.PrintWords Go.Proofs.YtgcgpcoeffillaaDoorW.PrintLast Go.Proofs.YtgcgpcoeffillaaDoorW.PrintMore
set_option linter.unusedSimpArgs false
theorem PathTells : graftwoodlaw04_PathTells.Goal := by
  intro a b _ _
  refine Ev.rounds (g := fun k => graftwoodlaw04_PathTells.f k a b) ?_
  unfold graftwoodlaw04_PathTells.f
  have hA := few_size a
  have hB := few_size b
  have hE := Elements_ev (few a) (by omega)
  have hM := May_ev (few a) (by omega)
  have hR := refMay4_ev (few a) (by omega)
  have hW := Within_ev (few a) (few b) (by omega) (by omega)
  have hV := refWithin_ev (few a) (few b) (by omega) (by omega)
  simp only [Few_eq, Option.bind_some]
  generalize withinL (L (few a)) (L (few b)) = w at hW hV
  cases hp : isPath (L (few a)) with
  | false =>
    rw [hp] at hE hM hR
    simp only [Bool.true_and, Bool.and_true, Bool.and_false, Bool.false_and, if_true, Bool.false_eq_true, if_false] at hE
    refine ev_bind hE (ev_bind hM (ev_bind hR (ev_neg (by decide) (ev_bind hW (ev_bind hV ?_)))))
    refine ev_step (fun k => by rw [graftwoodlaw04_PathTells.j0]) ?_
    refine ev_neg (by simp) (ev_bind hR (ev_neg (by decide) (ev_pos rfl (ev_pos rfl ?_))))
    exact ev_last awake4_ev
  | true =>
    rw [hp] at hE hM hR
    simp only [Bool.true_and, Bool.and_true, Bool.and_false, Bool.false_and, if_true, Bool.false_eq_true, if_false] at hE
    refine ev_bind hE (ev_bind hM (ev_bind hR (ev_neg (by decide) (ev_bind hW (ev_bind hV ?_)))))
    refine ev_step (fun k => by rw [graftwoodlaw04_PathTells.j0]) ?_
    refine ev_neg (by simp) (ev_bind hR (ev_pos rfl (ev_bind (refParts_ev _ 47 (by decide) (by decide) (by omega)) ?_)))
    have hl := (partsL_length 47 (L (few a))).1
    rw [L_size] at hl
    refine ev_bind (refSame_ev _ _ (by show (partsB 47 (few a)).length ≤ _; rw [partsB_length]; omega)) (ev_pos (by rw [decide_eq_true_eq]; rfl) (ev_pos rfl ?_))
    exact ev_last awake4_ev
end Go.Proofs.YtgcgpcoeffillaaDoor.Pure
