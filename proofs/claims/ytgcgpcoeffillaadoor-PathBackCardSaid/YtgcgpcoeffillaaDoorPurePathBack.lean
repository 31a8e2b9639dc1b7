import Derived.Test.YtgcgpcoeffillaaDoorGPathBack
import Derived.Test.YtgcgpcoeffillaaDoorPath
namespace Go.Proofs.YtgcgpcoeffillaaDoor.Pure
open Go.RowKit Go.Proofs.YtgcgpcoeffillaaDoor.P Go.Proofs.YtgcgpcoeffillaaDoor.Q Go.Proofs.YtgcgpcoeffillaaDoorB Go.Proofs.YtgcgpcoeffillaaDoorW.PrintWords Go.Proofs.YtgcgpcoeffillaaDoorW.PrintLast Go.Proofs.YtgcgpcoeffillaaDoorW.PrintMore
set_option linter.unusedSimpArgs false
theorem PathBack : graftwoodlaw04_PathBack.Goal := by
  intro a b _ _
  refine Ev.rounds (g := fun k => graftwoodlaw04_PathBack.f k a b) ?_
  unfold graftwoodlaw04_PathBack.f
  have hA := few_size a
  have hB := few_size b
  simp only [Few_eq, Option.bind_some, toList_L, List.nil_append]
  have hE := Elements_ev (few a) (by omega)
  have hM := May_ev (few a) (by omega)
  have hl := (partsL_length 47 (L (few a))).1
  rw [L_size] at hl
  have hlb := partsB_length 47 (few a)
  cases hp : isPath (L (few a)) with
  | false =>
    rw [hp] at hE hM
    simp only [Bool.true_and, Bool.and_true, Bool.and_false, Bool.false_and, if_true, Bool.false_eq_true, if_false] at hE
    exact ev_bind hE (ev_neg (by simp) (ev_bind hM (ev_neg (by decide) (ev_last awake4_ev))))
  | true =>
    rw [hp] at hE hM
    simp only [Bool.true_and, Bool.and_true, Bool.and_false, Bool.false_and, if_true, Bool.false_eq_true, if_false] at hE
    refine ev_bind hE (ev_pos rfl ?_)
    have hJ := Join_ev (partsB 47 (few a)) (by omega) (by rw [joinB_parts, L_size]; omega) (fun p hp => by have := partsB_size 47 _ p hp; omega)
    rw [joined_parts _ hp] at hJ
    refine ev_bind hJ (ev_pos (by simp only [List.length_nil]; omega) (ev_pos (by dsimp only; omega) ?_))
    have hK := Join_ev (partsB 47 (few a) ++ [few b]) (by rw [List.length_append, List.length_singleton]; omega) (by
      rw [List.map_append, List.map_cons, List.map_nil, joinL_snoc _ _ _ (by intro h; exact partsB_ne 47 (few a) (List.map_eq_nil_iff.1 h)), joinB_parts, List.length_append, List.length_cons, L_size, L_size]; omega) (fun p hp => by
      rcases List.mem_append.1 hp with hp | hp
      · have := partsB_size 47 _ p hp; omega
      · simp only [List.mem_singleton] at hp; subst hp; omega)
    rw [joined_snoc _ _ hp] at hK
    have hW := Within_ev (few a) (few a) (by omega) (by omega)
    rw [within_self, hp] at hW
    cases he : elemL (L (few b)) with
    | false =>
      rw [he] at hK
      simp only [if_true, Bool.false_eq_true, if_false] at hK
      exact ev_bind hK (ev_pos rfl (ev_pos rfl (ev_bind hW (ev_pos rfl (ev_neg (by simp) (ev_last awake4_ev))))))
    | true =>
      rw [he] at hK
      simp only [if_true, Bool.false_eq_true, if_false] at hK
      have hs := size_slash (few a) (few b)
      have hq : isPath (L (few b)) = true := by
        have := isPath_joinL (l := [L (few b)]) (by simp) (by simp; exact elem_free he)
        simpa [joinL, he] using this
      have hm := May_ev ((few a ++ (⟨#[47]⟩ : ByteArray)) ++ few b) (by omega)
      rw [L_slash, isPath_app, hp, hq] at hm
      have hw := Within_ev (few a) ((few a ++ (⟨#[47]⟩ : ByteArray)) ++ few b) (by omega) (by omega)
      rw [L_slash, within_app, hp, hq] at hw
      have hv := Within_ev ((few a ++ (⟨#[47]⟩ : ByteArray)) ++ few b) (few a) (by omega) (by omega)
      rw [L_slash, within_back] at hv
      refine ev_bind hK (ev_pos rfl (ev_pos rfl (ev_bind hW (ev_pos rfl (ev_pos rfl (ev_bind hm (ev_pos rfl (ev_bind hw (ev_pos rfl (ev_bind hv (ev_neg (by decide) ?_)))))))))))
      have hs2 : (few a ++ (⟨#[47]⟩ : ByteArray)).size = (few a).size + 1 := by rw [size_app]; rfl
      exact ev_pos (by omega) (ev_pos (by omega) (ev_pos rfl (ev_last awake4_ev)))
end Go.Proofs.YtgcgpcoeffillaaDoor.Pure
