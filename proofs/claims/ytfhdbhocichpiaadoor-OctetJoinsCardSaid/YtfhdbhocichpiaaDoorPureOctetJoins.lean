/-
  The pure statement of OctetJoins: the parts of two texts with what parts them between are those of both, one behind the other. No condition.
-/
import Derived.Test.YtfhdbhocichpiaaDoorGOctetJoins
import Derived.Test.YtfhdbhocichpiaaDoorOct
namespace Go.Proofs.YtfhdbhocichpiaaDoor.Pure
open Go.RowKit Go.Proofs.YtfhdbhocichpiaaDoor.P Go.Proofs.YtfhdbhocichpiaaDoor.Q Go.Proofs.YtfhdbhocichpiaaDoorB Go.Proofs.YtfhdbhocichpiaaDoorW.PrintWords Go.Proofs.YtfhdbhocichpiaaDoorW.PrintLast Go.Proofs.YtfhdbhocichpiaaDoorW.PrintMore
theorem OctetJoins : graftwoodlaw01_OctetJoins.Goal := by
  intro a b c _ _ hc
  obtain ⟨h0, h1⟩ := u8_range hc
  refine Ev.rounds (g := fun k => graftwoodlaw01_OctetJoins.f k a b c) ?_
  unfold graftwoodlaw01_OctetJoins.f
  have hA := few_size a
  have hB := few_size b
  simp only [Few_eq, Option.bind_some, List.nil_append]
  have hT : partsB c.toNat.toUInt8 ((few a ++ strOfNums [c]) ++ few b) = partsB c.toNat.toUInt8 (few a) ++ partsB c.toNat.toUInt8 (few b) := by
    unfold partsB
    rw [L_append, L_append, L_num, List.append_assoc]
    show List.map _ (partsL _ (L (few a) ++ c.toNat.toUInt8 :: L (few b))) = _
    rw [partsL_append, List.map_append]
  have hla := (partsL_length c.toNat.toUInt8 (L (few a))).1
  have hlb := (partsL_length c.toNat.toUInt8 (L (few b))).1
  rw [L_size] at hla hlb
  have hpa := partsB_length c.toNat.toUInt8 (few a)
  have hpb := partsB_length c.toNat.toUInt8 (few b)
  rw [Parts_eq _ c h0 h1 (by rw [size_app, size_app, size_num]; omega), Parts_eq (few a) c h0 h1 (by omega), Parts_eq (few b) c h0 h1 (by omega), hT]
  simp only [Option.bind_some]
  refine ev_pos (by rw [size_num]; omega) (ev_pos (by rw [size_app, size_num]; omega) (ev_pos (by simp only [List.length_nil]; omega) (ev_pos (by omega) ?_)))
  refine ev_bind (refSame_ev _ _ (by rw [List.length_append]; omega)) ?_
  refine ev_pos (by simp) ?_
  exact ev_const (by rw [awake_eq]; rfl)
end Go.Proofs.YtfhdbhocichpiaaDoor.Pure
