/-
  The pure statement of OctetOne: each octet is of just one class; of all classes each text is, of none but the empty one. No condition.
-/
import Derived.Test.YtfhdbhocichpiaaDoorGOctetOne
import Derived.Test.YtfhdbhocichpiaaDoorOct
namespace Go.Proofs.YtfhdbhocichpiaaDoor.Pure
open Go.RowKit Go.Proofs.YtfhdbhocichpiaaDoor.P Go.Proofs.YtfhdbhocichpiaaDoor.Q Go.Proofs.YtfhdbhocichpiaaDoorB Go.Proofs.YtfhdbhocichpiaaDoorW.PrintWords Go.Proofs.YtfhdbhocichpiaaDoorW.PrintLast Go.Proofs.YtfhdbhocichpiaaDoorW.PrintMore
theorem OctetOne : graftwoodlaw01_OctetOne.Goal := by
  intro c s hc _
  obtain ⟨h0, h1⟩ := u8_range hc
  refine Ev.rounds (g := fun k => graftwoodlaw01_OctetOne.f k c s) ?_
  unfold graftwoodlaw01_OctetOne.f
  have hS := few_size s
  simp only [Few_eq, Option.bind_some]
  generalize few s = S at *
  have hr := clsOf_range c
  have hall : allOf [0, 1, 2, 3, 4, 5, 6, 7, 8, 9] (L S) = true := by
    unfold allOf
    rw [List.all_eq_true]
    intro x _
    have := clsOf_range x.toNat
    simp only [List.contains_iff_mem, List.mem_cons, List.not_mem_nil, or_false]
    omega
  have hnone : allOf [] (L S) = (S.toList == ([] : List UInt8)) := by
    rw [toList_L]
    unfold allOf
    cases L S with
    | nil => rfl
    | cons x y => rfl
  have hloop : ∀ (d : Nat) (i many : Int), i + d = 11 → -1 ≤ i → many = (if clsOf c < i then 1 else 0) → Ev (fun k => graftwoodlaw01_OctetOne.l0 k c S many i) true := by
    intro d
    induction d with
    | zero =>
      intro i many hi _ hm
      rw [if_pos (by omega)] at hm
      refine ev_step (fun k => by rw [graftwoodlaw01_OctetOne.l0]) ?_
      refine ev_neg (by omega) (ev_pos hm ?_)
      rw [Class_eq c h0 h1, All_eq S _ (by omega), All_eq S _ (by omega), hall, hnone]
      simp only [Option.bind_some]
      refine ev_bind (In_ev c _ h0 h1 (by simp)) ?_
      refine ev_pos (by simp) (ev_pos trivial (ev_pos (by simp) ?_))
      exact ev_const (by rw [awake_eq]; rfl)
    | succ d ih =>
      intro i many hi hi0 hm
      refine ev_step (fun k => by rw [graftwoodlaw01_OctetOne.l0]) ?_
      refine ev_pos (by omega) ?_
      refine ev_bind (In_ev c _ h0 h1 (by simp)) ?_
      have hm2 : 0 ≤ many ∧ many ≤ 1 := by rw [hm]; split <;> omega
      rw [w_id (i := i + 1) (by omega) (by omega), w_id (i := many + 1) (by omega) (by omega)]
      refine ev_ite (fun h => ?_) (fun h => ?_)
      · have he : clsOf c = i := by simpa using h
        refine ih (i + 1) (many + 1) (by omega) (by omega) ?_
        rw [hm, if_neg (by omega), if_pos (by omega)]
        rfl
      · have he : ¬ clsOf c = i := fun e => h (by simp [e])
        refine ih (i + 1) many (by omega) (by omega) ?_
        rw [hm]
        by_cases hlt : clsOf c < i
        · rw [if_pos hlt, if_pos (by omega)]
        · rw [if_neg hlt, if_neg (by omega)]
  exact hloop 12 (-1) 0 (by omega) (by omega) (by rw [if_neg (by omega)])
end Go.Proofs.YtfhdbhocichpiaaDoor.Pure
