/-
  DERIVED. GIVEN WITH THE SEED: THE CARDS: each row of YtknmfmedklfepaaDoorRows.lean that lists a variable, with what it lists TIED to the program's text (the seventh form; the later family's looks); each row that meets fmt, with fmt's text TOLD by the authors' own Lean function (tested against real Go, not proved from fmt's source: count such statements apart). THE CARD IS WHAT COUNTS. Prove the row's statement (the work); the ties are given (YtknmfmedklfepaaDoorTie.lean); close each card by the builder's one call (the guide's Derived/Test/ToyasCard.lean, 'card_holds'). Laid BY PROGRAM, IN A SANDBOX (cutbox-door.mjs). By AI agents, Wed Nov 11 2026. No macro, syntax, notation, axiom, sorry.
-/
import Derived.Test.YtknmfmedklfepaaDoorRows
import GoSem.ClaimSeven
namespace Go.Proofs.YtknmfmedklfepaaDoor
namespace Rows

/-- THE TIED CARD OF 'graftwoodlaw17.ListPicks'. -/
def listPicksCard : Claim7 := { stood := { row := listPicksRow, standIns := [], harness := (true, "cec755b34ab932346a180ef854bddeec169d6000118f241176039945f1c39d5a"), looks := false }, kinds := [], alts := [], laidByText := true, laidKinds := [.data, .pinned], laidTests := true, laidLooks := .later }
def ListPicksCardSaid : Prop := Claim7.holds Tryd.pinned (.plain (OpenSpec.ofChange listPicksSpec)) listPicksCard

/-- THE TIED CARD OF 'graftwoodlaw17.ListGoes'. -/
def listGoesCard : Claim7 := { stood := { row := listGoesRow, standIns := [], harness := (true, "cec755b34ab932346a180ef854bddeec169d6000118f241176039945f1c39d5a"), looks := false }, kinds := [], alts := [], laidByText := true, laidKinds := [.data, .pinned], laidTests := true, laidLooks := .later }
def ListGoesCardSaid : Prop := Claim7.holds Tryd.pinned (.plain (OpenSpec.ofChange listGoesSpec)) listGoesCard

/-- THE SECOND FORM's CARD OF 'graftwoodlaw17.ListPicks'. -/
def listPicksUptoCard : Claim7 := { stood := { row := listPicksUptoRow, standIns := [], harness := (true, "cec755b34ab932346a180ef854bddeec169d6000118f241176039945f1c39d5a"), looks := false }, kinds := [], alts := [], laidByText := true, laidKinds := [.data, .pinned], laidTests := true, laidLooks := .later }
def ListPicksUptoCardSaid : Prop := Claim7.holds Tryd.pinned (.plain (OpenSpec.upto listPicksSpec)) listPicksUptoCard

/-- THE SECOND FORM's CARD OF 'graftwoodlaw17.ListGoes'. -/
def listGoesUptoCard : Claim7 := { stood := { row := listGoesUptoRow, standIns := [], harness := (true, "cec755b34ab932346a180ef854bddeec169d6000118f241176039945f1c39d5a"), looks := false }, kinds := [], alts := [], laidByText := true, laidKinds := [.data, .pinned], laidTests := true, laidLooks := .later }
def ListGoesUptoCardSaid : Prop := Claim7.holds Tryd.pinned (.plain (OpenSpec.upto listGoesSpec)) listGoesUptoCard
end Rows
end Go.Proofs.YtknmfmedklfepaaDoor
