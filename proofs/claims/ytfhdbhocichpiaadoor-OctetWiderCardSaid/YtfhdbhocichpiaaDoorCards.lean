/-
  DERIVED. GIVEN WITH THE SEED: THE CARDS: each row of YtfhdbhocichpiaaDoorRows.lean that lists a variable, with what it lists TIED to the program's text (the seventh form; the later family's looks); each row that meets fmt, with fmt's text TOLD by the authors' own Lean function (tested against real Go, not proved from fmt's source: count such statements apart). THE CARD IS WHAT COUNTS. Prove the row's statement (the work); the ties are given (YtfhdbhocichpiaaDoorTie.lean); close each card by the builder's one call (the guide's Derived/Test/ToyasCard.lean, 'card_holds'). Laid BY PROGRAM, IN A SANDBOX (cutbox-door.mjs). By AI agents, Wed Nov 11 2026. No macro, syntax, notation, axiom, sorry.
-/
import Derived.Test.YtfhdbhocichpiaaDoorRows
import GoSem.ClaimSeven
namespace Go.Proofs.YtfhdbhocichpiaaDoor
namespace Rows

/-- THE TIED CARD OF 'graftwoodlaw01.OctetParts'. -/
def octetPartsCard : Claim7 := { stood := { row := octetPartsRow, standIns := [], harness := (true, "03087fcc4c4ab9c66cbf7a2a28a5234b68372baffec4515eaa16d37207905f7f"), looks := false }, kinds := [], alts := [], laidByText := true, laidKinds := [.data, .pinned], laidTests := true, laidLooks := .later }
def OctetPartsCardSaid : Prop := Claim7.holds Tryd.pinned (.plain (OpenSpec.ofChange octetPartsSpec)) octetPartsCard

/-- THE TIED CARD OF 'graftwoodlaw01.OctetJoins'. -/
def octetJoinsCard : Claim7 := { stood := { row := octetJoinsRow, standIns := [], harness := (true, "03087fcc4c4ab9c66cbf7a2a28a5234b68372baffec4515eaa16d37207905f7f"), looks := false }, kinds := [], alts := [], laidByText := true, laidKinds := [.data, .pinned], laidTests := true, laidLooks := .later }
def OctetJoinsCardSaid : Prop := Claim7.holds Tryd.pinned (.plain (OpenSpec.ofChange octetJoinsSpec)) octetJoinsCard

/-- THE TIED CARD OF 'graftwoodlaw01.OctetTexts'. -/
def octetTextsCard : Claim7 := { stood := { row := octetTextsRow, standIns := [], harness := (true, "03087fcc4c4ab9c66cbf7a2a28a5234b68372baffec4515eaa16d37207905f7f"), looks := false }, kinds := [], alts := [], laidByText := true, laidKinds := [.data, .pinned], laidTests := true, laidLooks := .later }
def OctetTextsCardSaid : Prop := Claim7.holds Tryd.pinned (.plain (OpenSpec.ofChange octetTextsSpec)) octetTextsCard

/-- THE TIED CARD OF 'graftwoodlaw01.OctetOrder'. -/
def octetOrderCard : Claim7 := { stood := { row := octetOrderRow, standIns := [], harness := (true, "03087fcc4c4ab9c66cbf7a2a28a5234b68372baffec4515eaa16d37207905f7f"), looks := false }, kinds := [], alts := [], laidByText := true, laidKinds := [.data, .pinned], laidTests := true, laidLooks := .later }
def OctetOrderCardSaid : Prop := Claim7.holds Tryd.pinned (.plain (OpenSpec.ofChange octetOrderSpec)) octetOrderCard

/-- THE TIED CARD OF 'graftwoodlaw01.OctetWider'. -/
def octetWiderCard : Claim7 := { stood := { row := octetWiderRow, standIns := [], harness := (true, "03087fcc4c4ab9c66cbf7a2a28a5234b68372baffec4515eaa16d37207905f7f"), looks := false }, kinds := [], alts := [], laidByText := true, laidKinds := [.data, .pinned], laidTests := true, laidLooks := .later }
def OctetWiderCardSaid : Prop := Claim7.holds Tryd.pinned (.plain (OpenSpec.ofChange octetWiderSpec)) octetWiderCard

/-- THE TIED CARD OF 'graftwoodlaw01.OctetClasses'. -/
def octetClassesCard : Claim7 := { stood := { row := octetClassesRow, standIns := [], harness := (true, "03087fcc4c4ab9c66cbf7a2a28a5234b68372baffec4515eaa16d37207905f7f"), looks := false }, kinds := [], alts := [], laidByText := true, laidKinds := [.data, .pinned], laidTests := true, laidLooks := .later }
def OctetClassesCardSaid : Prop := Claim7.holds Tryd.pinned (.plain (OpenSpec.ofChange octetClassesSpec)) octetClassesCard

/-- THE TIED CARD OF 'graftwoodlaw01.OctetOne'. -/
def octetOneCard : Claim7 := { stood := { row := octetOneRow, standIns := [], harness := (true, "03087fcc4c4ab9c66cbf7a2a28a5234b68372baffec4515eaa16d37207905f7f"), looks := false }, kinds := [], alts := [], laidByText := true, laidKinds := [.data, .pinned], laidTests := true, laidLooks := .later }
def OctetOneCardSaid : Prop := Claim7.holds Tryd.pinned (.plain (OpenSpec.ofChange octetOneSpec)) octetOneCard

/-- THE SECOND FORM's CARD OF 'graftwoodlaw01.OctetParts'. -/
def octetPartsUptoCard : Claim7 := { stood := { row := octetPartsUptoRow, standIns := [], harness := (true, "03087fcc4c4ab9c66cbf7a2a28a5234b68372baffec4515eaa16d37207905f7f"), looks := false }, kinds := [], alts := [], laidByText := true, laidKinds := [.data, .pinned], laidTests := true, laidLooks := .later }
def OctetPartsUptoCardSaid : Prop := Claim7.holds Tryd.pinned (.plain (OpenSpec.upto octetPartsSpec)) octetPartsUptoCard

/-- THE SECOND FORM's CARD OF 'graftwoodlaw01.OctetJoins'. -/
def octetJoinsUptoCard : Claim7 := { stood := { row := octetJoinsUptoRow, standIns := [], harness := (true, "03087fcc4c4ab9c66cbf7a2a28a5234b68372baffec4515eaa16d37207905f7f"), looks := false }, kinds := [], alts := [], laidByText := true, laidKinds := [.data, .pinned], laidTests := true, laidLooks := .later }
def OctetJoinsUptoCardSaid : Prop := Claim7.holds Tryd.pinned (.plain (OpenSpec.upto octetJoinsSpec)) octetJoinsUptoCard

/-- THE SECOND FORM's CARD OF 'graftwoodlaw01.OctetTexts'. -/
def octetTextsUptoCard : Claim7 := { stood := { row := octetTextsUptoRow, standIns := [], harness := (true, "03087fcc4c4ab9c66cbf7a2a28a5234b68372baffec4515eaa16d37207905f7f"), looks := false }, kinds := [], alts := [], laidByText := true, laidKinds := [.data, .pinned], laidTests := true, laidLooks := .later }
def OctetTextsUptoCardSaid : Prop := Claim7.holds Tryd.pinned (.plain (OpenSpec.upto octetTextsSpec)) octetTextsUptoCard

/-- THE SECOND FORM's CARD OF 'graftwoodlaw01.OctetOrder'. -/
def octetOrderUptoCard : Claim7 := { stood := { row := octetOrderUptoRow, standIns := [], harness := (true, "03087fcc4c4ab9c66cbf7a2a28a5234b68372baffec4515eaa16d37207905f7f"), looks := false }, kinds := [], alts := [], laidByText := true, laidKinds := [.data, .pinned], laidTests := true, laidLooks := .later }
def OctetOrderUptoCardSaid : Prop := Claim7.holds Tryd.pinned (.plain (OpenSpec.upto octetOrderSpec)) octetOrderUptoCard

/-- THE SECOND FORM's CARD OF 'graftwoodlaw01.OctetWider'. -/
def octetWiderUptoCard : Claim7 := { stood := { row := octetWiderUptoRow, standIns := [], harness := (true, "03087fcc4c4ab9c66cbf7a2a28a5234b68372baffec4515eaa16d37207905f7f"), looks := false }, kinds := [], alts := [], laidByText := true, laidKinds := [.data, .pinned], laidTests := true, laidLooks := .later }
def OctetWiderUptoCardSaid : Prop := Claim7.holds Tryd.pinned (.plain (OpenSpec.upto octetWiderSpec)) octetWiderUptoCard

/-- THE SECOND FORM's CARD OF 'graftwoodlaw01.OctetClasses'. -/
def octetClassesUptoCard : Claim7 := { stood := { row := octetClassesUptoRow, standIns := [], harness := (true, "03087fcc4c4ab9c66cbf7a2a28a5234b68372baffec4515eaa16d37207905f7f"), looks := false }, kinds := [], alts := [], laidByText := true, laidKinds := [.data, .pinned], laidTests := true, laidLooks := .later }
def OctetClassesUptoCardSaid : Prop := Claim7.holds Tryd.pinned (.plain (OpenSpec.upto octetClassesSpec)) octetClassesUptoCard

/-- THE SECOND FORM's CARD OF 'graftwoodlaw01.OctetOne'. -/
def octetOneUptoCard : Claim7 := { stood := { row := octetOneUptoRow, standIns := [], harness := (true, "03087fcc4c4ab9c66cbf7a2a28a5234b68372baffec4515eaa16d37207905f7f"), looks := false }, kinds := [], alts := [], laidByText := true, laidKinds := [.data, .pinned], laidTests := true, laidLooks := .later }
def OctetOneUptoCardSaid : Prop := Claim7.holds Tryd.pinned (.plain (OpenSpec.upto octetOneSpec)) octetOneUptoCard
end Rows
end Go.Proofs.YtfhdbhocichpiaaDoor
