/-
  The pure statement of OctetTexts: any two texts held against one another, and any one's parts. No condition.
-/
import Derived.Test.YtfhdbhocichpiaaDoorGOctetTexts
import Derived.Test.YtfhdbhocichpiaaDoorOct
namespace Go.Proofs.YtfhdbhocichpiaaDoor.Pure
open Go.RowKit Go.Proofs.YtfhdbhocichpiaaDoor.P Go.Proofs.YtfhdbhocichpiaaDoor.Q Go.Proofs.YtfhdbhocichpiaaDoorB Go.Proofs.YtfhdbhocichpiaaDoorW.PrintWords Go.Proofs.YtfhdbhocichpiaaDoorW.PrintLast Go.Proofs.YtfhdbhocichpiaaDoorW.PrintMore
theorem OctetTexts : graftwoodlaw01_OctetTexts.Goal := by
  intro a b c _ _ hc
  obtain ⟨h0, h1⟩ := u8_range hc
  refine Ev.rounds (g := fun k => graftwoodlaw01_OctetTexts.f k a b c) ?_
  unfold graftwoodlaw01_OctetTexts.f
  have hA := few_size a
  have hB := few_size b
  simp only [Few_eq, Option.bind_some]
  generalize few a = A at *
  generalize few b = B at *
  have sA := L_size A
  have sB := L_size B
  have hj : ∀ x : Bool, x = false → Ev (fun k => graftwoodlaw01_OctetTexts.j0 k A B c x) true := by
    intro x hx
    subst hx
    refine ev_step (fun k => by rw [graftwoodlaw01_OctetTexts.j0]) ?_
    refine ev_neg (by simp) ?_
    rw [Cmp_eq, Parts_eq A c h0 h1 (by omega)]
    simp only [Option.bind_some]
    refine ev_bind (refCmp_ev A B (by omega)) ?_
    refine ev_pos rfl ?_
    refine ev_bind (refParts_ev A c h0 h1 (by omega)) ?_
    have hl := (partsL_length c.toNat.toUInt8 (L A)).1
    refine ev_bind (refSame_ev _ _ (by rw [partsB_length]; omega)) ?_
    refine ev_pos (by simp) ?_
    exact ev_const (by rw [awake_eq]; rfl)
  refine ev_bind (Common_ev A B (by omega)) ?_
  obtain ⟨c1, c2, c3⟩ := commonL_le (L A) (L B)
  refine ev_neg (by omega) (ev_neg (by omega) (ev_neg (by omega) (ev_pos (by omega) (ev_pos (by omega) (ev_pos (by omega) ?_)))))
  refine ev_pos ?_ ?_
  · rw [eq_iff_L, L_extract, L_extract, Int.toNat_natCast]
    simpa using c3
  refine ev_ite (fun h => ?_) (fun h => hj _ rfl)
  refine ev_ite (fun h' => ?_) (fun h' => hj _ rfl)
  refine hj _ ?_
  have hne := commonL_stop (L A) (L B) (by omega) (by omega)
  rw [beq_eq_false_iff_ne]
  intro e
  exact hne ((bt_eq_iff A B _ _ (by omega) (by omega)).1 e)
end Go.Proofs.YtfhdbhocichpiaaDoor.Pure
