/-
  DERIVED. GIVEN WITH THE SEED: THE CARDS: each row of YtomjppafgalaoaaDoorRows.lean that lists a variable, with what it lists TIED to the program's text (the seventh form; the later family's looks); each row that meets fmt, with fmt's text TOLD by the authors' own Lean function (tested against real Go, not proved from fmt's source: count such statements apart). THE CARD IS WHAT COUNTS. Prove the row's statement (the work); the ties are given (YtomjppafgalaoaaDoorTie.lean); close each card by the builder's one call (the guide's Derived/Test/ToyasCard.lean, 'card_holds'). Laid BY PROGRAM, IN A SANDBOX (cutbox-door.mjs). By AI agents, Wed Nov 11 2026. No macro, syntax, notation, axiom, sorry.
-/
import Derived.Test.YtomjppafgalaoaaDoorRows
import GoSem.ClaimSeven
namespace Go.Proofs.YtomjppafgalaoaaDoor
namespace Rows

/-- THE TIED CARD OF 'graftwoodlaw12.StoreGets'. -/
def storeGetsCard : Claim7 := { stood := { row := storeGetsRow, standIns := [], harness := (true, "3e0cb7110a789aabbaa9c85d2778cc7e3db305b2f34020a114db829fd27f038a"), looks := false }, kinds := [], alts := [], laidByText := true, laidKinds := [.data, .pinned], laidTests := true, laidLooks := .later }
def StoreGetsCardSaid : Prop := Claim7.holds Tryd.pinned (.plain (OpenSpec.ofChange storeGetsSpec)) storeGetsCard

/-- THE TIED CARD OF 'graftwoodlaw12.StoreMany'. -/
def storeManyCard : Claim7 := { stood := { row := storeManyRow, standIns := [], harness := (true, "3e0cb7110a789aabbaa9c85d2778cc7e3db305b2f34020a114db829fd27f038a"), looks := false }, kinds := [], alts := [], laidByText := true, laidKinds := [.data, .pinned], laidTests := true, laidLooks := .later }
def StoreManyCardSaid : Prop := Claim7.holds Tryd.pinned (.plain (OpenSpec.ofChange storeManySpec)) storeManyCard

/-- THE TIED CARD OF 'graftwoodlaw12.StoreOrder'. -/
def storeOrderCard : Claim7 := { stood := { row := storeOrderRow, standIns := [], harness := (true, "3e0cb7110a789aabbaa9c85d2778cc7e3db305b2f34020a114db829fd27f038a"), looks := false }, kinds := [], alts := [], laidByText := true, laidKinds := [.data, .pinned], laidTests := true, laidLooks := .later }
def StoreOrderCardSaid : Prop := Claim7.holds Tryd.pinned (.plain (OpenSpec.ofChange storeOrderSpec)) storeOrderCard

/-- THE TIED CARD OF 'graftwoodlaw12.StoreEmpties'. -/
def storeEmptiesCard : Claim7 := { stood := { row := storeEmptiesRow, standIns := [], harness := (true, "3e0cb7110a789aabbaa9c85d2778cc7e3db305b2f34020a114db829fd27f038a"), looks := false }, kinds := [], alts := [], laidByText := true, laidKinds := [.data, .pinned], laidTests := true, laidLooks := .later }
def StoreEmptiesCardSaid : Prop := Claim7.holds Tryd.pinned (.plain (OpenSpec.ofChange storeEmptiesSpec)) storeEmptiesCard

/-- THE SECOND FORM's CARD OF 'graftwoodlaw12.StoreGets'. -/
def storeGetsUptoCard : Claim7 := { stood := { row := storeGetsUptoRow, standIns := [], harness := (true, "3e0cb7110a789aabbaa9c85d2778cc7e3db305b2f34020a114db829fd27f038a"), looks := false }, kinds := [], alts := [], laidByText := true, laidKinds := [.data, .pinned], laidTests := true, laidLooks := .later }
def StoreGetsUptoCardSaid : Prop := Claim7.holds Tryd.pinned (.plain (OpenSpec.upto storeGetsSpec)) storeGetsUptoCard

/-- THE SECOND FORM's CARD OF 'graftwoodlaw12.StoreMany'. -/
def storeManyUptoCard : Claim7 := { stood := { row := storeManyUptoRow, standIns := [], harness := (true, "3e0cb7110a789aabbaa9c85d2778cc7e3db305b2f34020a114db829fd27f038a"), looks := false }, kinds := [], alts := [], laidByText := true, laidKinds := [.data, .pinned], laidTests := true, laidLooks := .later }
def StoreManyUptoCardSaid : Prop := Claim7.holds Tryd.pinned (.plain (OpenSpec.upto storeManySpec)) storeManyUptoCard

/-- THE SECOND FORM's CARD OF 'graftwoodlaw12.StoreOrder'. -/
def storeOrderUptoCard : Claim7 := { stood := { row := storeOrderUptoRow, standIns := [], harness := (true, "3e0cb7110a789aabbaa9c85d2778cc7e3db305b2f34020a114db829fd27f038a"), looks := false }, kinds := [], alts := [], laidByText := true, laidKinds := [.data, .pinned], laidTests := true, laidLooks := .later }
def StoreOrderUptoCardSaid : Prop := Claim7.holds Tryd.pinned (.plain (OpenSpec.upto storeOrderSpec)) storeOrderUptoCard

/-- THE SECOND FORM's CARD OF 'graftwoodlaw12.StoreEmpties'. -/
def storeEmptiesUptoCard : Claim7 := { stood := { row := storeEmptiesUptoRow, standIns := [], harness := (true, "3e0cb7110a789aabbaa9c85d2778cc7e3db305b2f34020a114db829fd27f038a"), looks := false }, kinds := [], alts := [], laidByText := true, laidKinds := [.data, .pinned], laidTests := true, laidLooks := .later }
def StoreEmptiesUptoCardSaid : Prop := Claim7.holds Tryd.pinned (.plain (OpenSpec.upto storeEmptiesSpec)) storeEmptiesUptoCard
end Rows
end Go.Proofs.YtomjppafgalaoaaDoor
