/-
  DERIVED. GIVEN WITH THE SEED: THE CARDS: each row of YtgcgpcoeffillaaDoorRows.lean that lists a variable, with what it lists TIED to the program's text (the seventh form; the later family's looks); each row that meets fmt, with fmt's text TOLD by the authors' own Lean function (tested against real Go, not proved from fmt's source: count such statements apart). THE CARD IS WHAT COUNTS. Prove the row's statement (the work); the ties are given (YtgcgpcoeffillaaDoorTie.lean); close each card by the builder's one call (the guide's Derived/Test/ToyasCard.lean, 'card_holds'). Laid BY PROGRAM, IN A SANDBOX (cutbox-door.mjs). By AI agents, Wed Nov 11 2026. No macro, syntax, notation, axiom, sorry.
-/
import Derived.Test.YtgcgpcoeffillaaDoorRows
import GoSem.ClaimSeven
namespace Go.Proofs.YtgcgpcoeffillaaDoor
namespace Rows

/-- THE TIED CARD OF 'graftwoodlaw04.PathTells'. -/
def pathTellsCard : Claim7 := { stood := { row := pathTellsRow, standIns := [], harness := (true, "1bfcb12ebf88b8e57f9fa469a6e201993b1aa2cefab3a8003aaef39e6d5d3c2e"), looks := false }, kinds := [], alts := [], laidByText := true, laidKinds := [.data, .pinned], laidTests := true, laidLooks := .later }
def PathTellsCardSaid : Prop := Claim7.holds Tryd.pinned (.plain (OpenSpec.ofChange pathTellsSpec)) pathTellsCard

/-- THE TIED CARD OF 'graftwoodlaw04.PathJoins'. -/
def pathJoinsCard : Claim7 := { stood := { row := pathJoinsRow, standIns := [], harness := (true, "1bfcb12ebf88b8e57f9fa469a6e201993b1aa2cefab3a8003aaef39e6d5d3c2e"), looks := false }, kinds := [], alts := [], laidByText := true, laidKinds := [.data, .pinned], laidTests := true, laidLooks := .later }
def PathJoinsCardSaid : Prop := Claim7.holds Tryd.pinned (.plain (OpenSpec.ofChange pathJoinsSpec)) pathJoinsCard

/-- THE TIED CARD OF 'graftwoodlaw04.PathBack'. -/
def pathBackCard : Claim7 := { stood := { row := pathBackRow, standIns := [], harness := (true, "1bfcb12ebf88b8e57f9fa469a6e201993b1aa2cefab3a8003aaef39e6d5d3c2e"), looks := false }, kinds := [], alts := [], laidByText := true, laidKinds := [.data, .pinned], laidTests := true, laidLooks := .later }
def PathBackCardSaid : Prop := Claim7.holds Tryd.pinned (.plain (OpenSpec.ofChange pathBackSpec)) pathBackCard

/-- THE TIED CARD OF 'graftwoodlaw04.PathWithin'. -/
def pathWithinCard : Claim7 := { stood := { row := pathWithinRow, standIns := [], harness := (true, "1bfcb12ebf88b8e57f9fa469a6e201993b1aa2cefab3a8003aaef39e6d5d3c2e"), looks := false }, kinds := [], alts := [], laidByText := true, laidKinds := [.data, .pinned], laidTests := true, laidLooks := .later }
def PathWithinCardSaid : Prop := Claim7.holds Tryd.pinned (.plain (OpenSpec.ofChange pathWithinSpec)) pathWithinCard

/-- THE TIED CARD OF 'graftwoodlaw04.PathOn'. -/
def pathOnCard : Claim7 := { stood := { row := pathOnRow, standIns := [], harness := (true, "1bfcb12ebf88b8e57f9fa469a6e201993b1aa2cefab3a8003aaef39e6d5d3c2e"), looks := false }, kinds := [], alts := [], laidByText := true, laidKinds := [.data, .pinned], laidTests := true, laidLooks := .later }
def PathOnCardSaid : Prop := Claim7.holds Tryd.pinned (.plain (OpenSpec.ofChange pathOnSpec)) pathOnCard

/-- THE TIED CARD OF 'graftwoodlaw04.PathDots'. -/
def pathDotsCard : Claim7 := { stood := { row := pathDotsRow, standIns := [], harness := (true, "1bfcb12ebf88b8e57f9fa469a6e201993b1aa2cefab3a8003aaef39e6d5d3c2e"), looks := false }, kinds := [], alts := [], laidByText := true, laidKinds := [.data, .pinned], laidTests := true, laidLooks := .later }
def PathDotsCardSaid : Prop := Claim7.holds Tryd.pinned (.plain (OpenSpec.ofChange pathDotsSpec)) pathDotsCard

/-- THE SECOND FORM's CARD OF 'graftwoodlaw04.PathTells'. -/
def pathTellsUptoCard : Claim7 := { stood := { row := pathTellsUptoRow, standIns := [], harness := (true, "1bfcb12ebf88b8e57f9fa469a6e201993b1aa2cefab3a8003aaef39e6d5d3c2e"), looks := false }, kinds := [], alts := [], laidByText := true, laidKinds := [.data, .pinned], laidTests := true, laidLooks := .later }
def PathTellsUptoCardSaid : Prop := Claim7.holds Tryd.pinned (.plain (OpenSpec.upto pathTellsSpec)) pathTellsUptoCard

/-- THE SECOND FORM's CARD OF 'graftwoodlaw04.PathJoins'. -/
def pathJoinsUptoCard : Claim7 := { stood := { row := pathJoinsUptoRow, standIns := [], harness := (true, "1bfcb12ebf88b8e57f9fa469a6e201993b1aa2cefab3a8003aaef39e6d5d3c2e"), looks := false }, kinds := [], alts := [], laidByText := true, laidKinds := [.data, .pinned], laidTests := true, laidLooks := .later }
def PathJoinsUptoCardSaid : Prop := Claim7.holds Tryd.pinned (.plain (OpenSpec.upto pathJoinsSpec)) pathJoinsUptoCard

/-- THE SECOND FORM's CARD OF 'graftwoodlaw04.PathBack'. -/
def pathBackUptoCard : Claim7 := { stood := { row := pathBackUptoRow, standIns := [], harness := (true, "1bfcb12ebf88b8e57f9fa469a6e201993b1aa2cefab3a8003aaef39e6d5d3c2e"), looks := false }, kinds := [], alts := [], laidByText := true, laidKinds := [.data, .pinned], laidTests := true, laidLooks := .later }
def PathBackUptoCardSaid : Prop := Claim7.holds Tryd.pinned (.plain (OpenSpec.upto pathBackSpec)) pathBackUptoCard

/-- THE SECOND FORM's CARD OF 'graftwoodlaw04.PathWithin'. -/
def pathWithinUptoCard : Claim7 := { stood := { row := pathWithinUptoRow, standIns := [], harness := (true, "1bfcb12ebf88b8e57f9fa469a6e201993b1aa2cefab3a8003aaef39e6d5d3c2e"), looks := false }, kinds := [], alts := [], laidByText := true, laidKinds := [.data, .pinned], laidTests := true, laidLooks := .later }
def PathWithinUptoCardSaid : Prop := Claim7.holds Tryd.pinned (.plain (OpenSpec.upto pathWithinSpec)) pathWithinUptoCard

/-- THE SECOND FORM's CARD OF 'graftwoodlaw04.PathOn'. -/
def pathOnUptoCard : Claim7 := { stood := { row := pathOnUptoRow, standIns := [], harness := (true, "1bfcb12ebf88b8e57f9fa469a6e201993b1aa2cefab3a8003aaef39e6d5d3c2e"), looks := false }, kinds := [], alts := [], laidByText := true, laidKinds := [.data, .pinned], laidTests := true, laidLooks := .later }
def PathOnUptoCardSaid : Prop := Claim7.holds Tryd.pinned (.plain (OpenSpec.upto pathOnSpec)) pathOnUptoCard

/-- THE SECOND FORM's CARD OF 'graftwoodlaw04.PathDots'. -/
def pathDotsUptoCard : Claim7 := { stood := { row := pathDotsUptoRow, standIns := [], harness := (true, "1bfcb12ebf88b8e57f9fa469a6e201993b1aa2cefab3a8003aaef39e6d5d3c2e"), looks := false }, kinds := [], alts := [], laidByText := true, laidKinds := [.data, .pinned], laidTests := true, laidLooks := .later }
def PathDotsUptoCardSaid : Prop := Claim7.holds Tryd.pinned (.plain (OpenSpec.upto pathDotsSpec)) pathDotsUptoCard
end Rows
end Go.Proofs.YtgcgpcoeffillaaDoor
