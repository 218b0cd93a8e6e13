/-
  DERIVED. GIVEN WITH THE SEED: THE CARDS: each row of YtfllgaoknigbnaaDoorRows.lean that lists a variable, with what it lists TIED to the program's text (the seventh form; the later family's looks); each row that meets fmt, with fmt's text TOLD by the authors' own Lean function (tested against real Go, not proved from fmt's source: count such statements apart). THE CARD IS WHAT COUNTS. Prove the row's statement (the work); the ties are given (YtfllgaoknigbnaaDoorTie.lean); close each card by the builder's one call (the guide's Derived/Test/ToyasCard.lean, 'card_holds'). Laid BY PROGRAM, IN A SANDBOX (cutbox-door.mjs). By AI agents, Wed Nov 11 2026. No macro, syntax, notation, axiom, sorry.
-/
import Derived.Test.YtfllgaoknigbnaaDoorRows
import GoSem.ClaimSeven
namespace Go.Proofs.YtfllgaoknigbnaaDoor
namespace Rows

/-- THE TIED CARD OF 'runglaw10.AddrParses'. -/
def addrParsesCard : Claim7 := { stood := { row := addrParsesRow, standIns := [], harness := (true, "499e3f8f41499cb46d9ec75b9c0a9b8d8c464c16c44d51dd1fceecc4f666ab96"), looks := true }, kinds := [], alts := [], laidByText := true, laidKinds := [.data, .data, .data, .sentinel, .sentinel], laidTests := true, laidLooks := .later }
def AddrParsesCardSaid : Prop := Claim7.holds Tryd.pinned (.plain (OpenSpec.ofChange addrParsesSpec)) addrParsesCard

/-- THE TIED CARD OF 'runglaw10.AddrTexts'. -/
def addrTextsCard : Claim7 := { stood := { row := addrTextsRow, standIns := [], harness := (true, "499e3f8f41499cb46d9ec75b9c0a9b8d8c464c16c44d51dd1fceecc4f666ab96"), looks := true }, kinds := [], alts := [], laidByText := true, laidKinds := [.data, .data, .data, .sentinel, .sentinel], laidTests := true, laidLooks := .later }
def AddrTextsCardSaid : Prop := Claim7.holds Tryd.pinned (.plain (OpenSpec.ofChange addrTextsSpec)) addrTextsCard

/-- THE TIED CARD OF 'runglaw10.AddrPlaces'. -/
def addrPlacesCard : Claim7 := { stood := { row := addrPlacesRow, standIns := [], harness := (true, "499e3f8f41499cb46d9ec75b9c0a9b8d8c464c16c44d51dd1fceecc4f666ab96"), looks := true }, kinds := [], alts := [], laidByText := true, laidKinds := [.data, .data, .data, .sentinel, .sentinel], laidTests := true, laidLooks := .later }
def AddrPlacesCardSaid : Prop := Claim7.holds Tryd.pinned (.plain (OpenSpec.ofChange addrPlacesSpec)) addrPlacesCard

/-- THE SECOND FORM's CARD OF 'runglaw10.AddrParses'. -/
def addrParsesUptoCard : Claim7 := { stood := { row := addrParsesUptoRow, standIns := [], harness := (true, "499e3f8f41499cb46d9ec75b9c0a9b8d8c464c16c44d51dd1fceecc4f666ab96"), looks := true }, kinds := [], alts := [], laidByText := true, laidKinds := [.data, .data, .data, .sentinel, .sentinel], laidTests := true, laidLooks := .later }
def AddrParsesUptoCardSaid : Prop := Claim7.holds Tryd.pinned (.plain (OpenSpec.upto addrParsesSpec)) addrParsesUptoCard

/-- THE SECOND FORM's CARD OF 'runglaw10.AddrTexts'. -/
def addrTextsUptoCard : Claim7 := { stood := { row := addrTextsUptoRow, standIns := [], harness := (true, "499e3f8f41499cb46d9ec75b9c0a9b8d8c464c16c44d51dd1fceecc4f666ab96"), looks := true }, kinds := [], alts := [], laidByText := true, laidKinds := [.data, .data, .data, .sentinel, .sentinel], laidTests := true, laidLooks := .later }
def AddrTextsUptoCardSaid : Prop := Claim7.holds Tryd.pinned (.plain (OpenSpec.upto addrTextsSpec)) addrTextsUptoCard

/-- THE SECOND FORM's CARD OF 'runglaw10.AddrPlaces'. -/
def addrPlacesUptoCard : Claim7 := { stood := { row := addrPlacesUptoRow, standIns := [], harness := (true, "499e3f8f41499cb46d9ec75b9c0a9b8d8c464c16c44d51dd1fceecc4f666ab96"), looks := true }, kinds := [], alts := [], laidByText := true, laidKinds := [.data, .data, .data, .sentinel, .sentinel], laidTests := true, laidLooks := .later }
def AddrPlacesUptoCardSaid : Prop := Claim7.holds Tryd.pinned (.plain (OpenSpec.upto addrPlacesSpec)) addrPlacesUptoCard
end Rows
end Go.Proofs.YtfllgaoknigbnaaDoor
