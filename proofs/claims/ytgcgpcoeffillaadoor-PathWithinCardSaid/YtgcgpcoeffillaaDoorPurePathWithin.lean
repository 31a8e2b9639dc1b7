import Derived.Test.YtgcgpcoeffillaaDoorGPathWithin
import Derived.Test.YtgcgpcoeffillaaDoorPath
namespace Go.Proofs.YtgcgpcoeffillaaDoor.Pure
open Go.RowKit Go.Proofs.YtgcgpcoeffillaaDoor.P Go.Proofs.YtgcgpcoeffillaaDoor.Q Go.Proofs.YtgcgpcoeffillaaDoorB Go.Proofs.YtgcgpcoeffillaaDoorW.PrintWords Go.Proofs.YtgcgpcoeffillaaDoorW.PrintLast Go.Proofs.YtgcgpcoeffillaaDoorW.PrintMore
theorem within_parts {p q : List UInt8} (h : withinL p q = true) : partsL 47 p <+: partsL 47 q := (parts_prefix p q).2 ((withinL_iff p q).1 h).2.2
theorem within_of {p q : List UInt8} (hp : isPath p = true) (hq : isPath q = true) (h : partsL 47 p <+: partsL 47 q) : withinL p q = true := (withinL_iff p q).2 ⟨hp, hq, (parts_prefix p q).1 h⟩
theorem within_total {p q r : List UInt8} (h : withinL p r = true) (h' : withinL q r = true) (hn : withinL p q = false) : withinL q p = true := by
  rcases Nat.le_total (partsL 47 p).length (partsL 47 q).length with hl | hl
  · rw [within_of (within_left h) (within_left h') (List.prefix_of_prefix_length_le (within_parts h) (within_parts h') hl)] at hn
    cases hn
  · exact within_of (within_left h') (within_left h) (List.prefix_of_prefix_length_le (within_parts h') (within_parts h) hl)
theorem PathWithin : graftwoodlaw04_PathWithin.Goal := by
  intro a b c _ _ _
  refine Ev.rounds (g := fun k => graftwoodlaw04_PathWithin.f k a b c) ?_
  unfold graftwoodlaw04_PathWithin.f
  have hA := few_size a
  have hB := few_size b
  have hC := few_size c
  simp only [Few_eq, Option.bind_some, toList_L]
  have h1 := Within_ev (few a) (few b) (by omega) (by omega)
  have h2 := Within_ev (few b) (few a) (by omega) (by omega)
  have h3 := Within_ev (few b) (few c) (by omega) (by omega)
  have h4 := Within_ev (few a) (few c) (by omega) (by omega)
  have hM := May_ev (few a) (by omega)
  have f1 := @within_left (L (few a)) (L (few b))
  have f2 := @within_right (L (few b)) (L (few a))
  have f3 := @within_trans (L (few a)) (L (few b)) (L (few c))
  have f4 := @within_anti (L (few a)) (L (few b))
  have f5 := @within_left (L (few a)) (L (few c))
  have f6 := @within_total (L (few a)) (L (few b)) (L (few c))
  refine ev_bind h1 (ev_bind h2 (ev_bind h3 (ev_bind h4 ?_)))
  generalize withinL (L (few a)) (L (few b)) = w1 at *
  generalize withinL (L (few b)) (L (few a)) = w2 at *
  generalize withinL (L (few b)) (L (few c)) = w3 at *
  generalize withinL (L (few a)) (L (few c)) = w4 at *
  clear h1 h2 h3 h4
  generalize isPath (L (few a)) = m at *
  cases w1 <;> cases w2 <;> cases w3 <;> cases w4 <;> cases m <;> (first | (exact absurd (f1 rfl) (by decide)) | (exact absurd (f2 rfl) (by decide)) | (exact absurd (f5 rfl) (by decide)) | (exact absurd (f3 rfl rfl) (by decide)) | (exact absurd (f6 rfl rfl rfl) (by decide)) | (
    repeat' first
    | exact ev_last awake4_ev
    | refine ev_bind hM ?_
    | refine ev_pos (f4 rfl rfl) ?_
    | refine ev_pos rfl ?_
    | refine ev_neg (by decide) ?_))
end Go.Proofs.YtgcgpcoeffillaaDoor.Pure
