/-
  The pure statement of OctetClasses: any octet's class, whether it is one of some, and whether all of a text are. No condition.
-/
import Derived.Test.YtfhdbhocichpiaaDoorGOctetClasses
import Derived.Test.YtfhdbhocichpiaaDoorOct
namespace Go.Proofs.YtfhdbhocichpiaaDoor.Pure
open Go.RowKit Go.Proofs.YtfhdbhocichpiaaDoor.P Go.Proofs.YtfhdbhocichpiaaDoor.Q Go.Proofs.YtfhdbhocichpiaaDoorB Go.Proofs.YtfhdbhocichpiaaDoorW.PrintWords Go.Proofs.YtfhdbhocichpiaaDoorW.PrintLast Go.Proofs.YtfhdbhocichpiaaDoorW.PrintMore
theorem OctetClasses : graftwoodlaw01_OctetClasses.Goal := by
  intro c s l hc _ hl
  obtain ⟨h0, h1⟩ := u8_range hc
  refine Ev.rounds (g := fun k => graftwoodlaw01_OctetClasses.f k c s l) ?_
  unfold graftwoodlaw01_OctetClasses.f
  have hS := few_size s
  simp only [Few_eq, Option.bind_some]
  generalize few s = S at *
  have hgo : ∀ x : List Int, x.length ≤ 20 → Ev (fun k => (octet_Class.f c).bind fun t242 => (graftwoodref01_Class.f k c).bind fun t243 => if t242 = t243 then ((octet_In.f k c x).bind fun t244 => ((graftwoodref01_Class.f k c).bind fun t245 => ((graftwoodref01_Has.f k x t245).bind fun t246 => (if (t244 == t246) = true then ((octet_All.f S x).bind fun t247 => ((graftwoodref01_All.f k S x).bind fun t248 => (if (t247 == t248) = true then ((graftwoodlaw01_awake.f).bind fun t249 => (some t249)) else (some false)))) else (some false))))) else (some false)) true := by
    intro x hx
    rw [Class_eq c h0 h1, All_eq S x (by omega)]
    simp only [Option.bind_some]
    refine ev_bind (refClass_ev c h0 h1) (ev_pos rfl ?_)
    refine ev_bind (In_ev c x h0 h1 (by omega)) (ev_bind (refClass_ev c h0 h1) (ev_bind (refHas_ev x _ (by omega)) ?_))
    refine ev_pos (by simp) ?_
    refine ev_bind (refAll_ev S x (by omega) (by omega)) (ev_pos (by simp) ?_)
    exact ev_const (by rw [awake_eq]; rfl)
  refine ev_ite (fun h => ?_) (fun h => hgo l (by omega))
  exact ev_pos (by omega) (hgo _ (by rw [List.length_take]; omega))
end Go.Proofs.YtfhdbhocichpiaaDoor.Pure
