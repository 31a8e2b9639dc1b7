/-
  DERIVED. GIVEN WITH THE SEED: THE CARDS: each row of YtjadpeahoaogcaaDoorRows.lean that lists a variable, with what it lists TIED to the program's text (the seventh form; the later family's looks); each row that meets fmt, with fmt's text TOLD by the authors' own Lean function (tested against real Go, not proved from fmt's source: count such statements apart). THE CARD IS WHAT COUNTS. Prove the row's statement (the work); the ties are given (YtjadpeahoaogcaaDoorTie.lean); close each card by the builder's one call (the guide's Derived/Test/ToyasCard.lean, 'card_holds'). Laid BY PROGRAM, IN A SANDBOX (cutbox-door.mjs). By AI agents, Wed Nov 11 2026. No macro, syntax, notation, axiom, sorry.
-/
import Derived.Test.YtjadpeahoaogcaaDoorRows
import GoSem.ClaimSeven
namespace Go.Proofs.YtjadpeahoaogcaaDoor
namespace Rows

/-- THE TIED CARD OF 'graftwoodlaw03.VersionOrder'. -/
def versionOrderCard : Claim7 := { stood := { row := versionOrderRow, standIns := [], harness := (true, "3205ea723f8026631ca95b03eaff8f8002359e92f561495da53daf426e568876"), looks := false }, kinds := [], alts := [], laidByText := true, laidKinds := [.data, .pinned], laidTests := true, laidLooks := .later }
def VersionOrderCardSaid : Prop := Claim7.holds Tryd.pinned (.plain (OpenSpec.ofChange versionOrderSpec)) versionOrderCard

/-- THE TIED CARD OF 'graftwoodlaw03.VersionOrders'. -/
def versionOrdersCard : Claim7 := { stood := { row := versionOrdersRow, standIns := [], harness := (true, "3205ea723f8026631ca95b03eaff8f8002359e92f561495da53daf426e568876"), looks := false }, kinds := [], alts := [], laidByText := true, laidKinds := [.data, .pinned], laidTests := true, laidLooks := .later }
def VersionOrdersCardSaid : Prop := Claim7.holds Tryd.pinned (.plain (OpenSpec.ofChange versionOrdersSpec)) versionOrdersCard

/-- THE TIED CARD OF 'graftwoodlaw03.VersionMost'. -/
def versionMostCard : Claim7 := { stood := { row := versionMostRow, standIns := [], harness := (true, "3205ea723f8026631ca95b03eaff8f8002359e92f561495da53daf426e568876"), looks := false }, kinds := [], alts := [], laidByText := true, laidKinds := [.data, .pinned], laidTests := true, laidLooks := .later }
def VersionMostCardSaid : Prop := Claim7.holds Tryd.pinned (.plain (OpenSpec.ofChange versionMostSpec)) versionMostCard

/-- THE TIED CARD OF 'graftwoodlaw03.VersionParts'. -/
def versionPartsCard : Claim7 := { stood := { row := versionPartsRow, standIns := [], harness := (true, "3205ea723f8026631ca95b03eaff8f8002359e92f561495da53daf426e568876"), looks := false }, kinds := [], alts := [], laidByText := true, laidKinds := [.data, .pinned], laidTests := true, laidLooks := .later }
def VersionPartsCardSaid : Prop := Claim7.holds Tryd.pinned (.plain (OpenSpec.ofChange versionPartsSpec)) versionPartsCard

/-- THE TIED CARD OF 'graftwoodlaw03.VersionBack'. -/
def versionBackCard : Claim7 := { stood := { row := versionBackRow, standIns := [], harness := (true, "3205ea723f8026631ca95b03eaff8f8002359e92f561495da53daf426e568876"), looks := false }, kinds := [], alts := [], laidByText := true, laidKinds := [.data, .pinned], laidTests := true, laidLooks := .later }
def VersionBackCardSaid : Prop := Claim7.holds Tryd.pinned (.plain (OpenSpec.ofChange versionBackSpec)) versionBackCard

/-- THE TIED CARD OF 'graftwoodlaw03.VersionSteps'. -/
def versionStepsCard : Claim7 := { stood := { row := versionStepsRow, standIns := [], harness := (true, "3205ea723f8026631ca95b03eaff8f8002359e92f561495da53daf426e568876"), looks := false }, kinds := [], alts := [], laidByText := true, laidKinds := [.data, .pinned], laidTests := true, laidLooks := .later }
def VersionStepsCardSaid : Prop := Claim7.holds Tryd.pinned (.plain (OpenSpec.ofChange versionStepsSpec)) versionStepsCard

/-- THE TIED CARD OF 'graftwoodlaw03.VersionCores'. -/
def versionCoresCard : Claim7 := { stood := { row := versionCoresRow, standIns := [], harness := (true, "3205ea723f8026631ca95b03eaff8f8002359e92f561495da53daf426e568876"), looks := false }, kinds := [], alts := [], laidByText := true, laidKinds := [.data, .pinned], laidTests := true, laidLooks := .later }
def VersionCoresCardSaid : Prop := Claim7.holds Tryd.pinned (.plain (OpenSpec.ofChange versionCoresSpec)) versionCoresCard

/-- THE SECOND FORM's CARD OF 'graftwoodlaw03.VersionOrder'. -/
def versionOrderUptoCard : Claim7 := { stood := { row := versionOrderUptoRow, standIns := [], harness := (true, "3205ea723f8026631ca95b03eaff8f8002359e92f561495da53daf426e568876"), looks := false }, kinds := [], alts := [], laidByText := true, laidKinds := [.data, .pinned], laidTests := true, laidLooks := .later }
def VersionOrderUptoCardSaid : Prop := Claim7.holds Tryd.pinned (.plain (OpenSpec.upto versionOrderSpec)) versionOrderUptoCard

/-- THE SECOND FORM's CARD OF 'graftwoodlaw03.VersionOrders'. -/
def versionOrdersUptoCard : Claim7 := { stood := { row := versionOrdersUptoRow, standIns := [], harness := (true, "3205ea723f8026631ca95b03eaff8f8002359e92f561495da53daf426e568876"), looks := false }, kinds := [], alts := [], laidByText := true, laidKinds := [.data, .pinned], laidTests := true, laidLooks := .later }
def VersionOrdersUptoCardSaid : Prop := Claim7.holds Tryd.pinned (.plain (OpenSpec.upto versionOrdersSpec)) versionOrdersUptoCard

/-- THE SECOND FORM's CARD OF 'graftwoodlaw03.VersionMost'. -/
def versionMostUptoCard : Claim7 := { stood := { row := versionMostUptoRow, standIns := [], harness := (true, "3205ea723f8026631ca95b03eaff8f8002359e92f561495da53daf426e568876"), looks := false }, kinds := [], alts := [], laidByText := true, laidKinds := [.data, .pinned], laidTests := true, laidLooks := .later }
def VersionMostUptoCardSaid : Prop := Claim7.holds Tryd.pinned (.plain (OpenSpec.upto versionMostSpec)) versionMostUptoCard

/-- THE SECOND FORM's CARD OF 'graftwoodlaw03.VersionParts'. -/
def versionPartsUptoCard : Claim7 := { stood := { row := versionPartsUptoRow, standIns := [], harness := (true, "3205ea723f8026631ca95b03eaff8f8002359e92f561495da53daf426e568876"), looks := false }, kinds := [], alts := [], laidByText := true, laidKinds := [.data, .pinned], laidTests := true, laidLooks := .later }
def VersionPartsUptoCardSaid : Prop := Claim7.holds Tryd.pinned (.plain (OpenSpec.upto versionPartsSpec)) versionPartsUptoCard

/-- THE SECOND FORM's CARD OF 'graftwoodlaw03.VersionBack'. -/
def versionBackUptoCard : Claim7 := { stood := { row := versionBackUptoRow, standIns := [], harness := (true, "3205ea723f8026631ca95b03eaff8f8002359e92f561495da53daf426e568876"), looks := false }, kinds := [], alts := [], laidByText := true, laidKinds := [.data, .pinned], laidTests := true, laidLooks := .later }
def VersionBackUptoCardSaid : Prop := Claim7.holds Tryd.pinned (.plain (OpenSpec.upto versionBackSpec)) versionBackUptoCard

/-- THE SECOND FORM's CARD OF 'graftwoodlaw03.VersionSteps'. -/
def versionStepsUptoCard : Claim7 := { stood := { row := versionStepsUptoRow, standIns := [], harness := (true, "3205ea723f8026631ca95b03eaff8f8002359e92f561495da53daf426e568876"), looks := false }, kinds := [], alts := [], laidByText := true, laidKinds := [.data, .pinned], laidTests := true, laidLooks := .later }
def VersionStepsUptoCardSaid : Prop := Claim7.holds Tryd.pinned (.plain (OpenSpec.upto versionStepsSpec)) versionStepsUptoCard

/-- THE SECOND FORM's CARD OF 'graftwoodlaw03.VersionCores'. -/
def versionCoresUptoCard : Claim7 := { stood := { row := versionCoresUptoRow, standIns := [], harness := (true, "3205ea723f8026631ca95b03eaff8f8002359e92f561495da53daf426e568876"), looks := false }, kinds := [], alts := [], laidByText := true, laidKinds := [.data, .pinned], laidTests := true, laidLooks := .later }
def VersionCoresUptoCardSaid : Prop := Claim7.holds Tryd.pinned (.plain (OpenSpec.upto versionCoresSpec)) versionCoresUptoCard
end Rows
end Go.Proofs.YtjadpeahoaogcaaDoor
