/-
  The pure statement of OctetOrder: of three texts order goes one way: turned about it is the other one; what comes ahead of what comes ahead does; what is put ahead of both changes nothing. No condition.
-/
import Derived.Test.YtfhdbhocichpiaaDoorGOctetOrder
import Derived.Test.YtfhdbhocichpiaaDoorOct
namespace Go.Proofs.YtfhdbhocichpiaaDoor.Pure
open Go.RowKit Go.Proofs.YtfhdbhocichpiaaDoor.P Go.Proofs.YtfhdbhocichpiaaDoor.Q Go.Proofs.YtfhdbhocichpiaaDoorB Go.Proofs.YtfhdbhocichpiaaDoorW.PrintWords Go.Proofs.YtfhdbhocichpiaaDoorW.PrintLast Go.Proofs.YtfhdbhocichpiaaDoorW.PrintMore
theorem OctetOrder : graftwoodlaw01_OctetOrder.Goal := by
  intro a b c _ _ _
  refine Ev.rounds (g := fun k => graftwoodlaw01_OctetOrder.f k a b c) ?_
  unfold graftwoodlaw01_OctetOrder.f
  have hA := few_size a
  have hB := few_size b
  have hC := few_size c
  simp only [Few_eq, Option.bind_some, Cmp_eq]
  generalize few a = A at *
  generalize few b = B at *
  generalize few c = C at *
  have sA := L_size A
  have sB := L_size B
  have sC := L_size C
  have hj : ∀ x : Bool, x = false → Ev (fun k => graftwoodlaw01_OctetOrder.j0 k A B C (cmpL (L A) (L B)) x) true := by
    intro x hx
    subst hx
    refine ev_step (fun k => by rw [graftwoodlaw01_OctetOrder.j0]) ?_
    refine ev_neg (by simp) (ev_pos (by omega) (ev_pos (by omega) ?_))
    simp only [Cmp_eq, Option.bind_some]
    refine ev_pos (by rw [L_append, L_append, cmpL_append]) ?_
    have hlast : Ev (fun k => (octet_Common.f k (C ++ A) (C ++ B)).bind fun t177 => (octet_Common.f k A B).bind fun t178 => if t177 = (wrap64 ((C.size : Int) + t178)) then ((graftwoodlaw01_awake.f).bind fun t179 => (some t179)) else (some false)) true := by
      refine ev_bind (Common_ev (C ++ A) (C ++ B) (by rw [size_app]; omega)) (ev_bind (Common_ev A B (by omega)) ?_)
      have hc := (commonL_le (L A) (L B)).1
      refine ev_pos ?_ (ev_const (by rw [awake_eq]; rfl))
      rw [L_append, L_append, commonL_append, w_id (by omega) (by omega)]
      omega
    refine ev_ite (fun _ => hlast) (fun h => ?_)
    refine ev_pos (by omega) ?_
    refine ev_pos ?_ hlast
    have hne : L B ≠ [] := fun e => h (by rw [toList_L, e])
    have hcm : cmpL (L A ++ []) (L A ++ L B) = -1 := by
      rw [cmpL_append]
      cases hb : L B with
      | nil => exact absurd hb hne
      | cons x y => rfl
    rw [List.append_nil] at hcm
    rw [L_append, hcm]
  have hr := cmpL_range (L B) (L A)
  have hab := cmpL_flip (L B) (L A)
  refine ev_pos (by rw [w_id (by omega) (by omega)]; exact hab) ?_
  refine ev_neg ?_ ?_
  · rw [toList_L, toList_L]
    by_cases h : L A = L B
    · simp [h, cmpL_self]
    · have : ¬ cmpL (L A) (L B) = 0 := fun e => h (cmpL_zero.1 e)
      rw [beq_eq_false_iff_ne.2 this, beq_eq_false_iff_ne.2 h]
      decide
  have htr : cmpL (L A) (L B) ≤ 0 → cmpL (L B) (L C) ≤ 0 → cmpL (L A) (L C) ≤ 0 := by
    rw [cmpL_le, cmpL_le, cmpL_le]
    exact fun h h' => List.le_trans h h'
  have hst : cmpL (L A) (L B) < 0 → cmpL (L B) (L C) ≤ 0 → cmpL (L A) (L C) < 0 := by
    rw [cmpL_neg, cmpL_le, cmpL_neg]
    exact fun h h' => lt_lt_le h h'
  refine ev_ite (fun h1 => ?_) (fun h1 => ?_)
  · refine ev_ite (fun h2 => ?_) (fun h2 => ?_)
    · refine ev_neg (by have := htr h1 h2; omega) ?_
      refine ev_ite (fun h3 => hj _ (decide_eq_false (by have := hst h3 h2; omega))) (fun h3 => hj _ rfl)
    · exact ev_ite (fun _ => hj _ rfl) (fun _ => hj _ rfl)
  · refine ev_ite (fun h2 => ?_) (fun h2 => hj _ rfl)
    exact ev_ite (fun h3 => hj _ (decide_eq_false (by have := hst h2 h3; omega))) (fun _ => hj _ rfl)
end Go.Proofs.YtfhdbhocichpiaaDoor.Pure
