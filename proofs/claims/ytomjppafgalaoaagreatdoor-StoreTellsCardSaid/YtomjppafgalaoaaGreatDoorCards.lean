/-
  DERIVED. GIVEN WITH THE SEED: THE CARDS: each row of YtomjppafgalaoaaGreatDoorRows.lean that lists a variable, with what it lists TIED to the program's text (the seventh form; the later family's looks); each row that meets fmt, with fmt's text TOLD by the authors' own Lean function (tested against real Go, not proved from fmt's source: count such statements apart). THE CARD IS WHAT COUNTS. Prove the row's statement (the work); the ties are given (YtomjppafgalaoaaGreatDoorTie.lean); close each card by the builder's one call (the guide's Derived/Test/ToyasCard.lean, 'card_holds'). Laid BY PROGRAM, IN A SANDBOX (cutbox-door.mjs). By AI agents, Wed Nov 11 2026. No macro, syntax, notation, axiom, sorry.
-/
import Derived.Test.YtomjppafgalaoaaGreatDoorRows
import GoSem.ClaimSeven
namespace Go.Proofs.YtomjppafgalaoaaGreatDoor
namespace Rows

/-- THE TIED CARD OF 'graftwoodlaw12.StoreTells'. -/
def storeTellsCard : Claim7 := { stood := { row := storeTellsRow, standIns := [], harness := (true, "0a12a602f0cc90e33ce4b56a0208fae7462f181cbf8db1b20ac2e97ce8a6bd76"), looks := false }, kinds := [], alts := [], laidByText := true, laidKinds := [.data, .pinned], laidTests := true, laidLooks := .later }
def StoreTellsCardSaid : Prop := Claim7.holds Tryz.pinned (.plain (OpenSpec.ofChange storeTellsSpec)) storeTellsCard

/-- THE SECOND FORM's CARD OF 'graftwoodlaw12.StoreTells'. -/
def storeTellsUptoCard : Claim7 := { stood := { row := storeTellsUptoRow, standIns := [], harness := (true, "0a12a602f0cc90e33ce4b56a0208fae7462f181cbf8db1b20ac2e97ce8a6bd76"), looks := false }, kinds := [], alts := [], laidByText := true, laidKinds := [.data, .pinned], laidTests := true, laidLooks := .later }
def StoreTellsUptoCardSaid : Prop := Claim7.holds Tryz.pinned (.plain (OpenSpec.upto storeTellsSpec)) storeTellsUptoCard
end Rows
end Go.Proofs.YtomjppafgalaoaaGreatDoor
