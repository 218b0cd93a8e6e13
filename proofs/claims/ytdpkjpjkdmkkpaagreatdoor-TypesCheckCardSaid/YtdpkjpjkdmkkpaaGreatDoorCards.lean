/-
  DERIVED. GIVEN WITH THE SEED: THE CARDS: each row of YtdpkjpjkdmkkpaaGreatDoorRows.lean that lists a variable, with what it lists TIED to the program's text (the seventh form; the later family's looks); each row that meets fmt, with fmt's text TOLD by the authors' own Lean function (tested against real Go, not proved from fmt's source: count such statements apart). THE CARD IS WHAT COUNTS. Prove the row's statement (the work); the ties are given (YtdpkjpjkdmkkpaaGreatDoorTie.lean); close each card by the builder's one call (the guide's Derived/Test/ToyasCard.lean, 'card_holds'). Laid BY PROGRAM, IN A SANDBOX (cutbox-door.mjs). By AI agents, Wed Nov 11 2026. No macro, syntax, notation, axiom, sorry.
-/
import Derived.Test.YtdpkjpjkdmkkpaaGreatDoorRows
import GoSem.ClaimSeven
namespace Go.Proofs.YtdpkjpjkdmkkpaaGreatDoor
namespace Rows

/-- THE TIED CARD OF 'runglaw15.TypesCheck'. -/
def typesCheckCard : Claim7 := { stood := { row := typesCheckRow, standIns := [], harness := (true, "412d11a80d33adfd4c6c00c69a31c86ab16e51a76133ba4d17cc793896b6f1c2"), looks := true }, kinds := [], alts := [], laidByText := true, laidKinds := [.data, .data, .data, .handle, .sentinel, .sentinel, .listed, .data], laidTests := true, laidLooks := .later }
def TypesCheckCardSaid : Prop := Claim7.holds Tryz.pinned (.plain (OpenSpec.ofChange typesCheckSpec)) typesCheckCard

/-- THE TIED CARD OF 'runglaw15.TypesCells'. -/
def typesCellsCard : Claim7 := { stood := { row := typesCellsRow, standIns := [], harness := (true, "412d11a80d33adfd4c6c00c69a31c86ab16e51a76133ba4d17cc793896b6f1c2"), looks := true }, kinds := [], alts := [], laidByText := true, laidKinds := [.data, .data, .data, .handle, .sentinel, .sentinel, .listed, .data], laidTests := true, laidLooks := .later }
def TypesCellsCardSaid : Prop := Claim7.holds Tryz.pinned (.plain (OpenSpec.ofChange typesCellsSpec)) typesCellsCard

/-- THE TIED CARD OF 'runglaw15.TypesPins'. -/
def typesPinsCard : Claim7 := { stood := { row := typesPinsRow, standIns := [], harness := (true, "412d11a80d33adfd4c6c00c69a31c86ab16e51a76133ba4d17cc793896b6f1c2"), looks := true }, kinds := [], alts := [], laidByText := true, laidKinds := [.data, .data, .data, .handle, .sentinel, .sentinel, .listed, .data], laidTests := true, laidLooks := .later }
def TypesPinsCardSaid : Prop := Claim7.holds Tryz.pinned (.plain (OpenSpec.ofChange typesPinsSpec)) typesPinsCard

/-- THE TIED CARD OF 'runglaw15.TypesBounds'. -/
def typesBoundsCard : Claim7 := { stood := { row := typesBoundsRow, standIns := [], harness := (true, "412d11a80d33adfd4c6c00c69a31c86ab16e51a76133ba4d17cc793896b6f1c2"), looks := true }, kinds := [], alts := [], laidByText := true, laidKinds := [.data, .data, .data, .handle, .sentinel, .sentinel, .listed, .data], laidTests := true, laidLooks := .later }
def TypesBoundsCardSaid : Prop := Claim7.holds Tryz.pinned (.plain (OpenSpec.ofChange typesBoundsSpec)) typesBoundsCard

/-- THE TIED CARD OF 'runglaw15.TypesRoom'. -/
def typesRoomCard : Claim7 := { stood := { row := typesRoomRow, standIns := [], harness := (true, "412d11a80d33adfd4c6c00c69a31c86ab16e51a76133ba4d17cc793896b6f1c2"), looks := true }, kinds := [], alts := [], laidByText := true, laidKinds := [.data, .data, .data, .handle, .sentinel, .sentinel, .listed, .data], laidTests := true, laidLooks := .later }
def TypesRoomCardSaid : Prop := Claim7.holds Tryz.pinned (.plain (OpenSpec.ofChange typesRoomSpec)) typesRoomCard

/-- THE SECOND FORM's CARD OF 'runglaw15.TypesCheck'. -/
def typesCheckUptoCard : Claim7 := { stood := { row := typesCheckUptoRow, standIns := [], harness := (true, "412d11a80d33adfd4c6c00c69a31c86ab16e51a76133ba4d17cc793896b6f1c2"), looks := true }, kinds := [], alts := [], laidByText := true, laidKinds := [.data, .data, .data, .handle, .sentinel, .sentinel, .listed, .data], laidTests := true, laidLooks := .later }
def TypesCheckUptoCardSaid : Prop := Claim7.holds Tryz.pinned (.plain (OpenSpec.upto typesCheckSpec)) typesCheckUptoCard

/-- THE SECOND FORM's CARD OF 'runglaw15.TypesCells'. -/
def typesCellsUptoCard : Claim7 := { stood := { row := typesCellsUptoRow, standIns := [], harness := (true, "412d11a80d33adfd4c6c00c69a31c86ab16e51a76133ba4d17cc793896b6f1c2"), looks := true }, kinds := [], alts := [], laidByText := true, laidKinds := [.data, .data, .data, .handle, .sentinel, .sentinel, .listed, .data], laidTests := true, laidLooks := .later }
def TypesCellsUptoCardSaid : Prop := Claim7.holds Tryz.pinned (.plain (OpenSpec.upto typesCellsSpec)) typesCellsUptoCard

/-- THE SECOND FORM's CARD OF 'runglaw15.TypesPins'. -/
def typesPinsUptoCard : Claim7 := { stood := { row := typesPinsUptoRow, standIns := [], harness := (true, "412d11a80d33adfd4c6c00c69a31c86ab16e51a76133ba4d17cc793896b6f1c2"), looks := true }, kinds := [], alts := [], laidByText := true, laidKinds := [.data, .data, .data, .handle, .sentinel, .sentinel, .listed, .data], laidTests := true, laidLooks := .later }
def TypesPinsUptoCardSaid : Prop := Claim7.holds Tryz.pinned (.plain (OpenSpec.upto typesPinsSpec)) typesPinsUptoCard

/-- THE SECOND FORM's CARD OF 'runglaw15.TypesBounds'. -/
def typesBoundsUptoCard : Claim7 := { stood := { row := typesBoundsUptoRow, standIns := [], harness := (true, "412d11a80d33adfd4c6c00c69a31c86ab16e51a76133ba4d17cc793896b6f1c2"), looks := true }, kinds := [], alts := [], laidByText := true, laidKinds := [.data, .data, .data, .handle, .sentinel, .sentinel, .listed, .data], laidTests := true, laidLooks := .later }
def TypesBoundsUptoCardSaid : Prop := Claim7.holds Tryz.pinned (.plain (OpenSpec.upto typesBoundsSpec)) typesBoundsUptoCard

/-- THE SECOND FORM's CARD OF 'runglaw15.TypesRoom'. -/
def typesRoomUptoCard : Claim7 := { stood := { row := typesRoomUptoRow, standIns := [], harness := (true, "412d11a80d33adfd4c6c00c69a31c86ab16e51a76133ba4d17cc793896b6f1c2"), looks := true }, kinds := [], alts := [], laidByText := true, laidKinds := [.data, .data, .data, .handle, .sentinel, .sentinel, .listed, .data], laidTests := true, laidLooks := .later }
def TypesRoomUptoCardSaid : Prop := Claim7.holds Tryz.pinned (.plain (OpenSpec.upto typesRoomSpec)) typesRoomUptoCard
end Rows
end Go.Proofs.YtdpkjpjkdmkkpaaGreatDoor
