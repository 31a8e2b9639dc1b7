/-
  DERIVED. GIVEN WITH THE SEED: THE CARDS: each row of YtjneghnknfhboaaDoorRows.lean that lists a variable, with what it lists TIED to the program's text (the seventh form; the later family's looks); each row that meets fmt, with fmt's text TOLD by the authors' own Lean function (tested against real Go, not proved from fmt's source: count such statements apart). THE CARD IS WHAT COUNTS. Prove the row's statement (the work); the ties are given (YtjneghnknfhboaaDoorTie.lean); close each card by the builder's one call (the guide's Derived/Test/ToyasCard.lean, 'card_holds'). Laid BY PROGRAM, IN A SANDBOX (cutbox-door.mjs). By AI agents, Wed Nov 11 2026. No macro, syntax, notation, axiom, sorry.
-/
import Derived.Test.YtjneghnknfhboaaDoorRows
import GoSem.ClaimSeven
namespace Go.Proofs.YtjneghnknfhboaaDoor
namespace Rows

/-- THE TIED CARD OF 'graftwoodlaw10.InternAll'. -/
def internAllCard : Claim7 := { stood := { row := internAllRow, standIns := [], harness := (true, "7993bff976a68c6f8d2dc53ad9aa6fa208dd5b0f5b691e862a624663268cdf37"), looks := false }, kinds := [], alts := [], laidByText := true, laidKinds := [.data, .pinned], laidTests := true, laidLooks := .later }
def InternAllCardSaid : Prop := Claim7.holds Tryd.pinned (.plain (OpenSpec.ofChange internAllSpec)) internAllCard

/-- THE TIED CARD OF 'graftwoodlaw10.InternDense'. -/
def internDenseCard : Claim7 := { stood := { row := internDenseRow, standIns := [], harness := (true, "7993bff976a68c6f8d2dc53ad9aa6fa208dd5b0f5b691e862a624663268cdf37"), looks := false }, kinds := [], alts := [], laidByText := true, laidKinds := [.data, .pinned], laidTests := true, laidLooks := .later }
def InternDenseCardSaid : Prop := Claim7.holds Tryd.pinned (.plain (OpenSpec.ofChange internDenseSpec)) internDenseCard

/-- THE TIED CARD OF 'graftwoodlaw10.InternBack'. -/
def internBackCard : Claim7 := { stood := { row := internBackRow, standIns := [], harness := (true, "7993bff976a68c6f8d2dc53ad9aa6fa208dd5b0f5b691e862a624663268cdf37"), looks := false }, kinds := [], alts := [], laidByText := true, laidKinds := [.data, .pinned], laidTests := true, laidLooks := .later }
def InternBackCardSaid : Prop := Claim7.holds Tryd.pinned (.plain (OpenSpec.ofChange internBackSpec)) internBackCard

/-- THE TIED CARD OF 'graftwoodlaw10.InternTells'. -/
def internTellsCard : Claim7 := { stood := { row := internTellsRow, standIns := [], harness := (true, "7993bff976a68c6f8d2dc53ad9aa6fa208dd5b0f5b691e862a624663268cdf37"), looks := false }, kinds := [], alts := [], laidByText := true, laidKinds := [.data, .pinned], laidTests := true, laidLooks := .later }
def InternTellsCardSaid : Prop := Claim7.holds Tryd.pinned (.plain (OpenSpec.ofChange internTellsSpec)) internTellsCard

/-- THE TIED CARD OF 'graftwoodlaw10.InternStays'. -/
def internStaysCard : Claim7 := { stood := { row := internStaysRow, standIns := [], harness := (true, "7993bff976a68c6f8d2dc53ad9aa6fa208dd5b0f5b691e862a624663268cdf37"), looks := false }, kinds := [], alts := [], laidByText := true, laidKinds := [.data, .pinned], laidTests := true, laidLooks := .later }
def InternStaysCardSaid : Prop := Claim7.holds Tryd.pinned (.plain (OpenSpec.ofChange internStaysSpec)) internStaysCard

/-- THE SECOND FORM's CARD OF 'graftwoodlaw10.InternAll'. -/
def internAllUptoCard : Claim7 := { stood := { row := internAllUptoRow, standIns := [], harness := (true, "7993bff976a68c6f8d2dc53ad9aa6fa208dd5b0f5b691e862a624663268cdf37"), looks := false }, kinds := [], alts := [], laidByText := true, laidKinds := [.data, .pinned], laidTests := true, laidLooks := .later }
def InternAllUptoCardSaid : Prop := Claim7.holds Tryd.pinned (.plain (OpenSpec.upto internAllSpec)) internAllUptoCard

/-- THE SECOND FORM's CARD OF 'graftwoodlaw10.InternDense'. -/
def internDenseUptoCard : Claim7 := { stood := { row := internDenseUptoRow, standIns := [], harness := (true, "7993bff976a68c6f8d2dc53ad9aa6fa208dd5b0f5b691e862a624663268cdf37"), looks := false }, kinds := [], alts := [], laidByText := true, laidKinds := [.data, .pinned], laidTests := true, laidLooks := .later }
def InternDenseUptoCardSaid : Prop := Claim7.holds Tryd.pinned (.plain (OpenSpec.upto internDenseSpec)) internDenseUptoCard

/-- THE SECOND FORM's CARD OF 'graftwoodlaw10.InternBack'. -/
def internBackUptoCard : Claim7 := { stood := { row := internBackUptoRow, standIns := [], harness := (true, "7993bff976a68c6f8d2dc53ad9aa6fa208dd5b0f5b691e862a624663268cdf37"), looks := false }, kinds := [], alts := [], laidByText := true, laidKinds := [.data, .pinned], laidTests := true, laidLooks := .later }
def InternBackUptoCardSaid : Prop := Claim7.holds Tryd.pinned (.plain (OpenSpec.upto internBackSpec)) internBackUptoCard

/-- THE SECOND FORM's CARD OF 'graftwoodlaw10.InternTells'. -/
def internTellsUptoCard : Claim7 := { stood := { row := internTellsUptoRow, standIns := [], harness := (true, "7993bff976a68c6f8d2dc53ad9aa6fa208dd5b0f5b691e862a624663268cdf37"), looks := false }, kinds := [], alts := [], laidByText := true, laidKinds := [.data, .pinned], laidTests := true, laidLooks := .later }
def InternTellsUptoCardSaid : Prop := Claim7.holds Tryd.pinned (.plain (OpenSpec.upto internTellsSpec)) internTellsUptoCard

/-- THE SECOND FORM's CARD OF 'graftwoodlaw10.InternStays'. -/
def internStaysUptoCard : Claim7 := { stood := { row := internStaysUptoRow, standIns := [], harness := (true, "7993bff976a68c6f8d2dc53ad9aa6fa208dd5b0f5b691e862a624663268cdf37"), looks := false }, kinds := [], alts := [], laidByText := true, laidKinds := [.data, .pinned], laidTests := true, laidLooks := .later }
def InternStaysUptoCardSaid : Prop := Claim7.holds Tryd.pinned (.plain (OpenSpec.upto internStaysSpec)) internStaysUptoCard
end Rows
end Go.Proofs.YtjneghnknfhboaaDoor
