import Derived.Test.YtgcgpcoeffillaaDoorGPathOn
import Derived.Test.YtgcgpcoeffillaaDoorPath
namespace Go.Proofs.YtgcgpcoeffillaaDoor.Pure
open Go.RowKit Go.Proofs.YtgcgpcoeffillaaDoor.P Go.Proofs.YtgcgpcoeffillaaDoor.Q Go.Proofs.YtgcgpcoeffillaaDoorB Go.Proofs.YtgcgpcoeffillaaDoorW.PrintWords Go.Proofs.YtgcgpcoeffillaaDoorW.PrintLast Go.Proofs.YtgcgpcoeffillaaDoorW.PrintMore
set_option linter.unusedSimpArgs false
theorem PathOn : graftwoodlaw04_PathOn.Goal := by
  intro a b _ _
  refine Ev.rounds (g := fun k => graftwoodlaw04_PathOn.f k a b) ?_
  unfold graftwoodlaw04_PathOn.f
  have hA := few_size a
  have hB := few_size b
  simp only [Few_eq, Option.bind_some]
  have hE := Elements_ev (few a) (by omega)
  have hF := Elements_ev (few b) (by omega)
  have hs := size_slash (few a) (few b)
  have hs2 : (few a ++ (⟨#[47]⟩ : ByteArray)).size = (few a).size + 1 := by rw [size_app]; rfl
  have hG := Elements_ev ((few a ++ (⟨#[47]⟩ : ByteArray)) ++ few b) (by omega)
  have hm := May_ev ((few a ++ (⟨#[47]⟩ : ByteArray)) ++ few b) (by omega)
  rw [L_slash, isPath_app] at hG hm
  have hw := Within_ev (few a) ((few a ++ (⟨#[47]⟩ : ByteArray)) ++ few b) (by omega) (by omega)
  rw [L_slash, within_app] at hw
  have hla := (partsL_length 47 (L (few a))).1
  have hlb := (partsL_length 47 (L (few b))).1
  rw [L_size] at hla hlb
  have hpa := partsB_length 47 (few a)
  have hpb := partsB_length 47 (few b)
  have hbad : (isPath (L (few a)) && isPath (L (few b))) = false → ∀ (x y : List ByteArray), Ev (fun k => graftwoodlaw04_PathOn.j0 k (few a) (few b) x y [] 1 true) true := by
    intro h x y
    rw [h] at hm
    refine ev_step (fun k => by rw [graftwoodlaw04_PathOn.j0]) ?_
    exact ev_pos rfl (ev_pos rfl (ev_pos (by omega) (ev_pos (by omega) (ev_bind hm (ev_neg (by decide) (ev_last awake4_ev))))))
  cases hp : isPath (L (few a)) with
  | false =>
    rw [hp] at hE hG hbad
    simp only [Bool.false_and, Bool.false_eq_true, if_false] at hG
    simp only [Bool.true_and, Bool.and_true, Bool.and_false, Bool.false_and, if_true, Bool.false_eq_true, if_false] at hE
    exact ev_bind hE (ev_bind hF (ev_pos (by omega) (ev_pos (by omega) (ev_bind hG (ev_neg (by simp) (hbad rfl _ _))))))
  | true =>
    rw [hp] at hE hG hw hbad
    simp only [Bool.true_and, Bool.and_true, Bool.and_false, Bool.false_and, if_true, Bool.false_eq_true, if_false] at hE
    cases hq : isPath (L (few b)) with
    | false =>
      rw [hq] at hF hG hbad
      simp only [Bool.true_and, Bool.and_true, Bool.and_false, Bool.false_and, if_true, Bool.false_eq_true, if_false] at hF hG
      exact ev_bind hE (ev_bind hF (ev_pos (by omega) (ev_pos (by omega) (ev_bind hG (ev_pos rfl (hbad rfl _ _))))))
    | true =>
      rw [hq] at hF hG hw
      simp only [Bool.true_and, Bool.and_true, Bool.and_false, Bool.false_and, if_true, Bool.false_eq_true, if_false] at hF hG
      refine ev_bind hE (ev_bind hF (ev_pos (by omega) (ev_pos (by omega) (ev_bind hG (ev_pos rfl ?_)))))
      refine ev_step (fun k => by rw [graftwoodlaw04_PathOn.j0]) ?_
      refine ev_neg (by simp) (ev_pos rfl (ev_some ?_))
      refine ev_pos (by simp only [List.length_nil]; omega) (ev_some ?_)
      refine ev_pos (by simp only [List.nil_append]; omega) ?_
      have hT : partsB 47 ((few a ++ (⟨#[47]⟩ : ByteArray)) ++ few b) = partsB 47 (few a) ++ partsB 47 (few b) := by
        unfold partsB
        rw [L_slash, partsL_append, List.map_append]
      refine ev_bind (refSame_ev _ _ ?_) (ev_pos ?_ (ev_pos (by omega) (ev_pos (by omega) (ev_bind hw (ev_pos rfl (ev_last awake4_ev))))))
      · show (partsB 47 ((few a ++ (⟨#[47]⟩ : ByteArray)) ++ few b)).length ≤ _
        rw [hT, List.length_append]; omega
      · rw [decide_eq_true_eq]
        exact hT
end Go.Proofs.YtgcgpcoeffillaaDoor.Pure
