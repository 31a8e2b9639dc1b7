/-
  The pure statement of OctetWider: of more classes no less is; of two texts together all are just if all of both are. No condition.
-/
import Derived.Test.YtfhdbhocichpiaaDoorGOctetWider
import Derived.Test.YtfhdbhocichpiaaDoorOct
namespace Go.Proofs.YtfhdbhocichpiaaDoor.Pure
open Go.RowKit Go.Proofs.YtfhdbhocichpiaaDoor.P Go.Proofs.YtfhdbhocichpiaaDoor.Q Go.Proofs.YtfhdbhocichpiaaDoorB Go.Proofs.YtfhdbhocichpiaaDoorW.PrintWords Go.Proofs.YtfhdbhocichpiaaDoorW.PrintLast Go.Proofs.YtfhdbhocichpiaaDoorW.PrintMore
theorem allOf_append (l : List Int) (x y : List UInt8) : allOf l (x ++ y) = (allOf l x && allOf l y) := by
  unfold allOf
  rw [List.all_append]
theorem allOf_wider {l m : List Int} (h : ∀ n, n ∈ l → n ∈ m) {x : List UInt8} (hx : allOf l x = true) : allOf m x = true := by
  unfold allOf at hx ⊢
  simp only [List.all_eq_true, List.contains_iff_mem] at hx ⊢
  exact fun b hb => h _ (hx b hb)
theorem OctetWider : graftwoodlaw01_OctetWider.Goal := by
  intro a b l _ _ hl
  unfold graftwoodlaw01_OctetWider.f
  have hA := few_size a
  have hB := few_size b
  simp only [Few_eq, Option.bind_some]
  generalize few a = A at *
  generalize few b = B at *
  have hgo : ∀ x : List Int, x.length ≤ 20 → ((octet_All.f A x).bind fun t211 => ((octet_All.f B x).bind fun t212 => (if A.size + B.size ≤ 9223372036854775807 then ((octet_All.f (A ++ B) x).bind fun t213 => (if t211 = true then (if (t213 == t212) = true then (if ([] : List Int).length + x.length < 17592186044416 then (if ([] ++ x).length < 17592186044416 then ((octet_All.f A (([] ++ x) ++ [3])).bind fun t223 => (if t223 = true then (if (x.length : Int) = 0 then ((graftwoodlaw01_awake.f).bind fun t224 => (some t224)) else (if 0 ≤ (wrap64 ((x.length : Int) - 1)) then (if (wrap64 ((x.length : Int) - 1)) < (x.length : Int) then (if ([rd x (wrap64 ((x.length : Int) - 1))] : List Int).length + x.length < 17592186044416 then ((octet_All.f A ([rd x (wrap64 ((x.length : Int) - 1))] ++ x)).bind fun t232 => (if t232 = true then ((graftwoodlaw01_awake.f).bind fun t233 => (some t233)) else (some false))) else (none)) else (none)) else (none))) else (some false))) else (none)) else (none)) else (some false)) else (if (t213 == false) = true then ((graftwoodlaw01_awake.f).bind fun t234 => (some t234)) else (some false)))) else (none)))) = some true := by
    intro x hx
    have hw : wrap64 ((x.length : Int) - 1) = (x.length : Int) - 1 := w_id (by omega) (by omega)
    rw [All_eq A x (by omega), All_eq B x (by omega), All_eq (A ++ B) x (by rw [size_app]; omega), L_append, allOf_append]
    simp only [Option.bind_some, awake_eq, List.nil_append, hw]
    rw [if_pos (by omega)]
    cases hA1 : allOf x (L A) with
    | false => simp
    | true =>
      have h3 : allOf (x ++ [3]) (L A) = true := allOf_wider (fun n hn => by simp [hn]) hA1
      have h4 : ∀ n, allOf ([n] ++ x) (L A) = true := fun n => allOf_wider (fun m hm => by simp [hm]) hA1
      rw [if_pos rfl, if_pos (by simp), if_pos (by simp only [List.length_nil]; omega), if_pos (by omega), All_eq A _ (by omega), h3]
      simp only [Option.bind_some, if_true]
      by_cases h0 : (x.length : Int) = 0
      · rw [if_pos h0]
      · rw [if_neg h0, if_pos (by omega), if_pos (by omega), if_pos (by simp only [List.length_singleton]; omega), All_eq A _ (by omega), h4]
        rfl
  by_cases h : (l.length : Int) > 20
  · rw [if_pos h, if_pos (by omega)]
    exact hgo _ (by rw [List.length_take]; omega)
  · rw [if_neg h]
    exact hgo _ (by omega)
end Go.Proofs.YtfhdbhocichpiaaDoor.Pure
