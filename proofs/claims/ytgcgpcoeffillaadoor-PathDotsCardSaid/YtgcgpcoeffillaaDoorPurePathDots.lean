import Derived.Test.YtgcgpcoeffillaaDoorGPathDots
import Derived.Test.YtgcgpcoeffillaaDoorPath
namespace Go.Proofs.YtgcgpcoeffillaaDoor.Pure
open Go.RowKit Go.Proofs.YtgcgpcoeffillaaDoor.P Go.Proofs.YtgcgpcoeffillaaDoor.Q Go.Proofs.YtgcgpcoeffillaaDoorB Go.Proofs.YtgcgpcoeffillaaDoorW.PrintWords Go.Proofs.YtgcgpcoeffillaaDoorW.PrintLast Go.Proofs.YtgcgpcoeffillaaDoorW.PrintMore
set_option linter.unusedSimpArgs false
theorem elem_ok {l : List UInt8} (h : elemL l = true) : l.all elemOk = true ∧ (∃ b t, l = b :: t ∧ b ≠ 46) ∧ (∃ b t, l = t ++ [b] ∧ b ≠ 46) := by
  unfold elemL elemPre at h
  simp only [Bool.and_eq_true, Bool.not_eq_true'] at h
  obtain ⟨⟨h1, h2⟩, h3⟩ := h
  refine ⟨h1, ?_, ?_⟩
  · cases l with
    | nil => exact absurd h3 (by decide)
    | cons b t => exact ⟨b, t, rfl, fun e => by subst e; simp at h2⟩
  · rcases List.eq_nil_or_concat l with rfl | ⟨t, b, rfl⟩
    · exact absurd h3 (by decide)
    · refine ⟨b, t, by simp, fun e => ?_⟩
      subst e
      unfold lastR at h3
      simp at h3
theorem elem_mk {l t t' : List UInt8} {b c : UInt8} (h : l.all elemOk = true) (hb : l = b :: t) (hb' : b ≠ 46) (hc : l = t' ++ [c]) (hc' : c ≠ 46) : elemL l = true := by
  unfold elemL elemPre
  have h2 : (l.head? == some 46) = false := by rw [hb]; simp [hb']
  have h3 : (lastR l == 46) = false := by
    unfold lastR
    rw [hc]
    simp only [List.getLast?_append, List.getLast?_singleton, Option.some_or, Option.getD_some, beq_eq_false_iff_ne, ne_eq]
    intro e
    exact hc' (UInt8.toNat_inj.1 (by have : (46 : UInt8).toNat = 46 := rfl; omega))
  rw [h, h2, h3]
  rfl
theorem PathDots : graftwoodlaw04_PathDots.Goal := by
  intro a _
  refine Ev.rounds (g := fun k => graftwoodlaw04_PathDots.f k a) ?_
  unfold graftwoodlaw04_PathDots.f
  have hA := few_size a
  simp only [Few_eq, Option.bind_some]
  generalize few a = s at *
  have hE := Elements_ev s (by omega)
  cases hp : isPath (L s) with
  | false =>
    rw [hp] at hE
    simp only [Bool.true_and, Bool.and_true, Bool.and_false, Bool.false_and, if_true, Bool.false_eq_true, if_false] at hE
    exact ev_bind hE (ev_neg (by simp) (ev_last awake4_ev))
  | true =>
    rw [hp] at hE
    simp only [Bool.true_and, Bool.and_true, Bool.and_false, Bool.false_and, if_true, Bool.false_eq_true, if_false] at hE
    refine ev_bind hE (ev_pos rfl ?_)
    have hla := partsL_length 47 (L s)
    rw [L_size] at hla
    have hpa := partsB_length 47 s
    have hall : (partsL 47 (L s)).all elemL = true := hp
    have hfree := partsL_free 47 (L s)
    have hjoin := joinL_parts 47 (L s)
    obtain ⟨h, t, ht⟩ := partsL_split 47 (L s)
    have hz : partsL 47 (L s) = (partsL 47 (L s)).dropLast ++ [(partsL 47 (L s)).getLast (partsL_ne 47 (L s))] := (List.dropLast_concat_getLast _).symm
    generalize hlast : (partsL 47 (L s)).getLast (partsL_ne 47 (L s)) = z at hz
    generalize (partsL 47 (L s)).dropLast = f at hz
    have hw : wrap64 (((partsB 47 s).length : Int) - 1) = (((partsB 47 s).length - 1 : Nat) : Int) := by rw [w_id (by omega) (by omega)]; omega
    have hrd : rdOf ByteArray.empty (partsB 47 s) (((partsB 47 s).length - 1 : Nat) : Int) = ⟨z.toArray⟩ := by
      rw [rdOf_at _ _ _ (by omega)]
      refine L_inj ?_
      refine (partsB_get 47 s _ (by omega)).trans ?_
      show _ = z
      rw [← hlast, List.getLast_eq_getElem]
      congr 1
      omega
    have hez : elemL z = true := List.all_eq_true.1 hall z (by rw [hz]; simp)
    have heh : elemL h = true := List.all_eq_true.1 hall h (by rw [ht]; simp)
    have hzs : z.length ≤ s.size := by
      have := part_le 47 (L s) z (by rw [hz]; simp)
      rw [L_size] at this; exact this
    refine ev_neg (by dsimp only; omega) ?_
    dsimp only
    rw [hw, hrd]
    have hzz : (⟨z.toArray⟩ : ByteArray).size = z.length := by rw [← L_size, L_mk]
    obtain ⟨hz1, ⟨zb, zt, hzb, hzb'⟩, ⟨zc, zu, hzc, hzc'⟩⟩ := elem_ok hez
    obtain ⟨hh1, ⟨hb, htl, hhb, hhb'⟩, ⟨hc, hu, hhc, hhc'⟩⟩ := elem_ok heh
    -- something before the first part, something behind the last
    have hpre : ∀ x : List UInt8, (47 : UInt8) ∉ x → isPath (x ++ L s) = (elemL (x ++ h) && t.all elemL) := by
      intro x hx
      have e : x ++ L s = joinL 47 ((x ++ h) :: t) := by
        rw [← hjoin, ht]
        cases t with
        | nil => rfl
        | cons y t => rw [joinL_cons 47 h (y :: t) (by simp), joinL_cons 47 (x ++ h) (y :: t) (by simp), List.append_assoc]
      rw [e, isPath_joinL (by simp)]
      · rfl
      · intro p hp
        rcases List.mem_cons.1 hp with rfl | hp
        · intro hin
          rcases List.mem_append.1 hin with hin | hin
          · exact hx hin
          · exact hfree h (by rw [ht]; simp) hin
        · exact hfree p (by rw [ht]; simp [hp])
    have hpost : ∀ x : List UInt8, (47 : UInt8) ∉ x → isPath (L s ++ x) = (f.all elemL && elemL (z ++ x)) := by
      intro x hx
      have e : L s ++ x = joinL 47 (f ++ [z ++ x]) := by
        conv => lhs; rw [← hjoin, hz]
        cases f with
        | nil => rfl
        | cons y f => rw [joinL_snoc 47 z (y :: f) (by simp), joinL_snoc 47 (z ++ x) (y :: f) (by simp), List.append_assoc]; rfl
      rw [e, isPath_joinL (by simp), List.all_append]
      · simp
      · intro p hp
        rcases List.mem_append.1 hp with hp | hp
        · exact hfree p (by rw [hz]; simp [hp])
        · simp only [List.mem_singleton] at hp
          subst hp
          intro hin
          rcases List.mem_append.1 hin with hin | hin
          · exact hfree z (by rw [hz]; simp) hin
          · exact hx hin
    have htall : t.all elemL = true := by rw [ht, List.all_cons, Bool.and_eq_true] at hall; exact hall.2
    have hfall : f.all elemL = true := by rw [hz, List.all_append, Bool.and_eq_true] at hall; exact hall.1
    have L46 : L (⟨#[46]⟩ : ByteArray) = [46] := rfl
    have z46 : (⟨#[46]⟩ : ByteArray).size = 1 := rfl
    have L462 : L (⟨#[46, 46]⟩ : ByteArray) = [46, 46] := rfl
    have z462 : (⟨#[46, 46]⟩ : ByteArray).size = 2 := rfl
    have zfree : (47 : UInt8) ∉ z := elem_free hez
    have m1 := May_ev ((⟨#[46]⟩ : ByteArray) ++ s) (by rw [size_app]; omega)
    rw [L_append, L46, hpre [46] (by decide)] at m1
    have e1 : elemL ([46] ++ h) = false := by unfold elemL elemPre; simp
    rw [e1, Bool.false_and] at m1
    have m2 := May_ev (s ++ (⟨#[46]⟩ : ByteArray)) (by rw [size_app]; omega)
    rw [L_append, L46, hpost [46] (by decide)] at m2
    have e2 : elemL (z ++ [46]) = false := by unfold elemL lastR; simp
    rw [e2, Bool.and_false] at m2
    have m3 := May_ev ((s ++ (⟨#[46]⟩ : ByteArray)) ++ ⟨z.toArray⟩) (by rw [size_app, size_app]; omega)
    rw [L_append, L_append, L46, L_mk z, List.append_assoc, hpost ([46] ++ z) (by simp [zfree])] at m3
    have e3 : elemL (z ++ ([46] ++ z)) = true := by
      refine elem_mk (b := zb) (t := zt ++ ([46] ++ z)) (c := zc) (t' := z ++ ([46] ++ zu)) ?_ ?_ hzb' ?_ hzc'
      · simp only [List.all_append, hz1, List.all_cons, List.all_nil]; decide
      · exact congrArg (fun y => y ++ ([46] ++ z)) hzb
      · rw [List.append_assoc, List.append_assoc]
        exact congrArg (fun y => z ++ ([46] ++ y)) hzc
    rw [hfall, e3] at m3
    have m4 := May_ev (((⟨z.toArray⟩ : ByteArray) ++ (⟨#[46, 46]⟩ : ByteArray)) ++ s) (by rw [size_app, size_app]; omega)
    rw [L_append, L_append, L462, L_mk z, hpre (z ++ [46, 46]) (by simp [zfree])] at m4
    have e4 : elemL ((z ++ [46, 46]) ++ h) = true := by
      refine elem_mk (b := zb) (t := zt ++ ([46, 46] ++ h)) (c := hc) (t' := z ++ [46, 46] ++ hu) ?_ ?_ hzb' ?_ hhc'
      · simp only [List.all_append, hz1, hh1, List.all_cons, List.all_nil]; decide
      · rw [List.append_assoc]; exact congrArg (fun y => y ++ ([46, 46] ++ h)) hzb
      · rw [List.append_assoc (z ++ [46, 46]) hu [hc]]
        exact congrArg (fun y => z ++ [46, 46] ++ y) hhc
    rw [htall, e4] at m4
    have s1 : (s ++ (⟨#[46]⟩ : ByteArray)).size = s.size + 1 := by rw [size_app]; rfl
    have s2 : ((⟨z.toArray⟩ : ByteArray) ++ (⟨#[46, 46]⟩ : ByteArray)).size = z.length + 2 := by rw [size_app, hzz]; rfl
    refine ev_pos (by omega) (ev_pos (by omega) (ev_pos (by omega) (ev_bind m1 (ev_neg (by decide) (ev_pos (by omega) (ev_bind m2 (ev_neg (by decide) ?_)))))))
    refine ev_pos (by omega) (ev_bind m3 (ev_pos rfl (ev_pos (by omega) (ev_pos (by omega) (ev_bind m4 (ev_pos rfl ?_))))))
    exact ev_last awake4_ev
end Go.Proofs.YtgcgpcoeffillaaDoor.Pure
