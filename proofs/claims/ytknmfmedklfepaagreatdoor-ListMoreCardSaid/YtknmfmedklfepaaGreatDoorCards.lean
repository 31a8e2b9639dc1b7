/-
  DERIVED. GIVEN WITH THE SEED: THE CARDS: each row of YtknmfmedklfepaaGreatDoorRows.lean that lists a variable, with what it lists TIED to the program's text (the seventh form; the later family's looks); each row that meets fmt, with fmt's text TOLD by the authors' own Lean function (tested against real Go, not proved from fmt's source: count such statements apart). THE CARD IS WHAT COUNTS. Prove the row's statement (the work); the ties are given (YtknmfmedklfepaaGreatDoorTie.lean); close each card by the builder's one call (the guide's Derived/Test/ToyasCard.lean, 'card_holds'). Laid BY PROGRAM, IN A SANDBOX (cutbox-door.mjs). By AI agents, Wed Nov 11 2026. No macro, syntax, notation, axiom, sorry.
-/
import Derived.Test.YtknmfmedklfepaaGreatDoorRows
import GoSem.ClaimSeven
namespace Go.Proofs.YtknmfmedklfepaaGreatDoor
namespace Rows

/-- THE TIED CARD OF 'graftwoodlaw17.ListTells'. -/
def listTellsCard : Claim7 := { stood := { row := listTellsRow, standIns := [], harness := (true, "b2a47a222c439bbd31800b83f49158e831581d527f93e1ad65dbe40f957726b7"), looks := false }, kinds := [], alts := [], laidByText := true, laidKinds := [.data, .pinned], laidTests := true, laidLooks := .later }
def ListTellsCardSaid : Prop := Claim7.holds Tryz.pinned (.plain (OpenSpec.ofChange listTellsSpec)) listTellsCard

/-- THE TIED CARD OF 'graftwoodlaw17.ListAbove'. -/
def listAboveCard : Claim7 := { stood := { row := listAboveRow, standIns := [], harness := (true, "b2a47a222c439bbd31800b83f49158e831581d527f93e1ad65dbe40f957726b7"), looks := false }, kinds := [], alts := [], laidByText := true, laidKinds := [.data, .pinned], laidTests := true, laidLooks := .later }
def ListAboveCardSaid : Prop := Claim7.holds Tryz.pinned (.plain (OpenSpec.ofChange listAboveSpec)) listAboveCard

/-- THE TIED CARD OF 'graftwoodlaw17.ListChanges'. -/
def listChangesCard : Claim7 := { stood := { row := listChangesRow, standIns := [], harness := (true, "b2a47a222c439bbd31800b83f49158e831581d527f93e1ad65dbe40f957726b7"), looks := false }, kinds := [], alts := [], laidByText := true, laidKinds := [.data, .pinned], laidTests := true, laidLooks := .later }
def ListChangesCardSaid : Prop := Claim7.holds Tryz.pinned (.plain (OpenSpec.ofChange listChangesSpec)) listChangesCard

/-- THE TIED CARD OF 'graftwoodlaw17.ListMore'. -/
def listMoreCard : Claim7 := { stood := { row := listMoreRow, standIns := [], harness := (true, "b2a47a222c439bbd31800b83f49158e831581d527f93e1ad65dbe40f957726b7"), looks := false }, kinds := [], alts := [], laidByText := true, laidKinds := [.data, .pinned], laidTests := true, laidLooks := .later }
def ListMoreCardSaid : Prop := Claim7.holds Tryz.pinned (.plain (OpenSpec.ofChange listMoreSpec)) listMoreCard

/-- THE SECOND FORM's CARD OF 'graftwoodlaw17.ListTells'. -/
def listTellsUptoCard : Claim7 := { stood := { row := listTellsUptoRow, standIns := [], harness := (true, "b2a47a222c439bbd31800b83f49158e831581d527f93e1ad65dbe40f957726b7"), looks := false }, kinds := [], alts := [], laidByText := true, laidKinds := [.data, .pinned], laidTests := true, laidLooks := .later }
def ListTellsUptoCardSaid : Prop := Claim7.holds Tryz.pinned (.plain (OpenSpec.upto listTellsSpec)) listTellsUptoCard

/-- THE SECOND FORM's CARD OF 'graftwoodlaw17.ListAbove'. -/
def listAboveUptoCard : Claim7 := { stood := { row := listAboveUptoRow, standIns := [], harness := (true, "b2a47a222c439bbd31800b83f49158e831581d527f93e1ad65dbe40f957726b7"), looks := false }, kinds := [], alts := [], laidByText := true, laidKinds := [.data, .pinned], laidTests := true, laidLooks := .later }
def ListAboveUptoCardSaid : Prop := Claim7.holds Tryz.pinned (.plain (OpenSpec.upto listAboveSpec)) listAboveUptoCard

/-- THE SECOND FORM's CARD OF 'graftwoodlaw17.ListChanges'. -/
def listChangesUptoCard : Claim7 := { stood := { row := listChangesUptoRow, standIns := [], harness := (true, "b2a47a222c439bbd31800b83f49158e831581d527f93e1ad65dbe40f957726b7"), looks := false }, kinds := [], alts := [], laidByText := true, laidKinds := [.data, .pinned], laidTests := true, laidLooks := .later }
def ListChangesUptoCardSaid : Prop := Claim7.holds Tryz.pinned (.plain (OpenSpec.upto listChangesSpec)) listChangesUptoCard

/-- THE SECOND FORM's CARD OF 'graftwoodlaw17.ListMore'. -/
def listMoreUptoCard : Claim7 := { stood := { row := listMoreUptoRow, standIns := [], harness := (true, "b2a47a222c439bbd31800b83f49158e831581d527f93e1ad65dbe40f957726b7"), looks := false }, kinds := [], alts := [], laidByText := true, laidKinds := [.data, .pinned], laidTests := true, laidLooks := .later }
def ListMoreUptoCardSaid : Prop := Claim7.holds Tryz.pinned (.plain (OpenSpec.upto listMoreSpec)) listMoreUptoCard
end Rows
end Go.Proofs.YtknmfmedklfepaaGreatDoor
