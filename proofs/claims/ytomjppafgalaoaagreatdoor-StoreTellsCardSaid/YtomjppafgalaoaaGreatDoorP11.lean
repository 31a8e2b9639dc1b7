-- half the indentation
import Derived.Test.YtomjppafgalaoaaGreatDoorSqz
import Derived.Test.YtomjppafgalaoaaGreatDoorP0
import Derived.Test.YtomjppafgalaoaaGreatDoorP10
namespace Go.Proofs.YtomjppafgalaoaaGreatDoor.P
open Go.RowKit Go.Proofs.YtomjppafgalaoaaGreatDoorW.PrintWords Go.Proofs.YtomjppafgalaoaaGreatDoorW.PrintLast Go.Proofs.YtomjppafgalaoaaGreatDoorW.PrintMore
attribute [local go_sem] max2_int min2_int max_two min_two max_three min_three max_four min_four
set_option linter.unusedVariables false
set_option linter.unusedSimpArgs false
set_option maxHeartbeats 8000000
set_option maxRecDepth 100000

/-! ### stringslite_Cut: function 86 -/
def stringslite_Cut.f (a0 : ByteArray) (a1 : ByteArray) : Option (ByteArray × ByteArray × Bool) := (stringslite_Index.f a0 a1).bind fun aa => (if aa ≥ 0 then (if 0 ≤ aa then (if aa ≤ (a0.size : Int) then (if 0 ≤ (wrap64 (aa + (a1.size : Int))) then (if (wrap64 (aa + (a1.size : Int))) ≤ (a0.size : Int) then (some (a0.extract 0 (aa : Int).toNat, a0.extract ((wrap64 (aa + (a1.size : Int))) : Int).toNat a0.size, true)) else (none)) else (none)) else (none)) else (none)) else (some (a0, (⟨#[]⟩ : ByteArray), false)))
theorem stringslite_Cut.calls (a0 : ByteArray) (a1 : ByteArray) (r1 : ByteArray) (r2 : ByteArray) (r3 : Bool) (w : World) (h : stringslite_Cut.f a0 a1 = some (r1, r2, r3)) :
  Calls Tryz.prog 86 #[.string a0, .string a1] w fun e w' => e = .returned (.tuple #[.string r1, .string r2, .bool r3]) ∧ Drawn0 w w' := by
 unfold stringslite_Cut.f at h; have H := h; clear h
 replace H := bnd H; obtain ⟨aa, A3, H⟩ := H
 replace H := ifP H; rcases H with ⟨c4, H⟩ | ⟨c4, H⟩
 ·have af : decide (0 ≤ aa) = true := decide_eq_true c4
  clear c4
  replace H := ifN H; obtain ⟨c5, H⟩ := H
  have ah := eq_true c5
  have ai := decide_eq_true c5
  clear c5
  replace H := ifN H; obtain ⟨c6, H⟩ := H
  have aj := eq_true c6
  have ak := decide_eq_true c6
  clear c6
  obtain ⟨ji7, ab⟩ : ∃ j_ : Int, (wrap64 (aa + (a1.size : Int))) = j_ := ⟨_, rfl⟩
  replace H : (if 0 ≤ (ji7) then (if (ji7) ≤ (a0.size : Int) then (some (a0.extract 0 (aa : Int).toNat, a0.extract ((ji7) : Int).toNat a0.size, true)) else (none)) else (none)) = some (r1, r2, r3) := by first | (rw [ab] at H; exact H) | (simp only [ab] at H ⊢; exact H)
  (try rw [ab] at A3)
  have ag : (IntKind.i64.wrap (aa + (a1.size : Int))) = ji7 := (i64_w _).trans ab
  replace H := ifN H; obtain ⟨c8, H⟩ := H
  have al := eq_true c8
  have an := decide_eq_true c8
  clear c8
  replace H := ifN H; obtain ⟨c9, H⟩ := H
  have ao := eq_true c9
  have ap := decide_eq_true c9
  clear c9
  simp only [Option.some.injEq, Prod.mk.injEq] at H
  obtain ⟨rfl, rfl, rfl⟩ := H
  go_enter Tryz.func86, Tryz.ntmps86
  go_wp2_with (first | (go_at_call 91; (with_reducible refine (stringslite_Index.calls a0 a1 aa _ A3.out).mono ?_); rintro e w' ⟨rfl, ⟨nd, rfl⟩⟩; (try first | exact ⟨rfl, _, World.drewN_drewN _ _ _⟩ | exact ⟨rfl, _, Eq.trans (World.drewN_drewN _ _ _) (congrArg (World.drewN _) (Nat.add_assoc _ _ _))⟩)))
  repeat (go_quiet (first | (go_at_call 91; (with_reducible refine (stringslite_Index.calls a0 a1 aa _ A3.out).mono ?_); rintro e w' ⟨rfl, ⟨nd, rfl⟩⟩; (try first | exact ⟨rfl, _, World.drewN_drewN _ _ _⟩ | exact ⟨rfl, _, Eq.trans (World.drewN_drewN _ _ _) (congrArg (World.drewN _) (Nat.add_assoc _ _ _))⟩))); try go_wp2_with (first | (go_at_call 91; (with_reducible refine (stringslite_Index.calls a0 a1 aa _ A3.out).mono ?_); rintro e w' ⟨rfl, ⟨nd, rfl⟩⟩; (try first | exact ⟨rfl, _, World.drewN_drewN _ _ _⟩ | exact ⟨rfl, _, Eq.trans (World.drewN_drewN _ _ _) (congrArg (World.drewN _) (Nat.add_assoc _ _ _))⟩))))
  go_ret3
  exact ⟨by first | rfl | (simp; done) | (simp only [← ab] <;> (first | rfl | simp)) | (simp [*]; done), rfD⟩
 ·have af : decide (0 ≤ aa) = false := decide_eq_false c4
  clear c4
  simp only [Option.some.injEq, Prod.mk.injEq] at H
  obtain ⟨rfl, rfl, rfl⟩ := H
  go_enter Tryz.func86, Tryz.ntmps86
  go_wp2_with (first | (go_at_call 91; (with_reducible refine (stringslite_Index.calls a0 a1 aa _ A3.out).mono ?_); rintro e w' ⟨rfl, ⟨nd, rfl⟩⟩; (try first | exact ⟨rfl, _, World.drewN_drewN _ _ _⟩ | exact ⟨rfl, _, Eq.trans (World.drewN_drewN _ _ _) (congrArg (World.drewN _) (Nat.add_assoc _ _ _))⟩)))
  repeat (go_quiet (first | (go_at_call 91; (with_reducible refine (stringslite_Index.calls a0 a1 aa _ A3.out).mono ?_); rintro e w' ⟨rfl, ⟨nd, rfl⟩⟩; (try first | exact ⟨rfl, _, World.drewN_drewN _ _ _⟩ | exact ⟨rfl, _, Eq.trans (World.drewN_drewN _ _ _) (congrArg (World.drewN _) (Nat.add_assoc _ _ _))⟩))); try go_wp2_with (first | (go_at_call 91; (with_reducible refine (stringslite_Index.calls a0 a1 aa _ A3.out).mono ?_); rintro e w' ⟨rfl, ⟨nd, rfl⟩⟩; (try first | exact ⟨rfl, _, World.drewN_drewN _ _ _⟩ | exact ⟨rfl, _, Eq.trans (World.drewN_drewN _ _ _) (congrArg (World.drewN _) (Nat.add_assoc _ _ _))⟩))))
  go_ret3
  exact ⟨rfG, rfD⟩

/-! ### strings_Cut: function 77 -/
def strings_Cut.f (a0 : ByteArray) (a1 : ByteArray) : Option (ByteArray × ByteArray × Bool) := (stringslite_Cut.f a0 a1).bind fun bt135 => (some (bt135.1, bt135.2.1, bt135.2.2))
theorem strings_Cut.calls (a0 : ByteArray) (a1 : ByteArray) (r1 : ByteArray) (r2 : ByteArray) (r3 : Bool) (w : World) (h : strings_Cut.f a0 a1 = some (r1, r2, r3)) :
  Calls Tryz.prog 77 #[.string a0, .string a1] w fun e w' => e = .returned (.tuple #[.string r1, .string r2, .bool r3]) ∧ Drawn0 w w' := by
 unfold strings_Cut.f at h; have H := h; clear h
 replace H := bnd H; obtain ⟨⟨ac, ad, ae⟩, A3, H⟩ := H
 (try dsimp only at H)
 simp only [Option.some.injEq, Prod.mk.injEq] at H
 obtain ⟨rfl, rfl, rfl⟩ := H
 go_enter Tryz.func77, Tryz.ntmps77
 go_wp2_with (first | ((with_reducible refine gtC 86 ?_); refine xCz 9 Tryz.func86 (stringslite_Cut.calls a0 a1 ac ad ae _ A3.out) fun nd => ?_))
 go_ret3
 exact ⟨rfG, rfD⟩

end Go.Proofs.YtomjppafgalaoaaGreatDoor.P
