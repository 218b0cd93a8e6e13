/-
  DERIVED. GIVEN WITH THE SEED: THE CARDS: each row of YtfllgaoknigbnaaGreatDoorRows.lean that lists a variable, with what it lists TIED to the program's text (the seventh form; the later family's looks); each row that meets fmt, with fmt's text TOLD by the authors' own Lean function (tested against real Go, not proved from fmt's source: count such statements apart). THE CARD IS WHAT COUNTS. Prove the row's statement (the work); the ties are given (YtfllgaoknigbnaaGreatDoorTie.lean); close each card by the builder's one call (the guide's Derived/Test/ToyasCard.lean, 'card_holds'). Laid BY PROGRAM, IN A SANDBOX (cutbox-door.mjs). By AI agents, Wed Nov 11 2026. No macro, syntax, notation, axiom, sorry.
-/
import Derived.Test.YtfllgaoknigbnaaGreatDoorRows
import GoSem.ClaimSeven
namespace Go.Proofs.YtfllgaoknigbnaaGreatDoor
namespace Rows

/-- THE TIED CARD OF 'runglaw12.LexBlanks'. -/
def lexBlanksCard : Claim7 := { stood := { row := lexBlanksRow, standIns := [], harness := (true, "39d32330e90e341c931952c937e99603328b2fe1435cb423ed33cc9641803255"), looks := true }, kinds := [], alts := [], laidByText := true, laidKinds := [.data, .data, .data, .handle, .sentinel, .sentinel, .listed, .data], laidTests := true, laidLooks := .later }
def LexBlanksCardSaid : Prop := Claim7.holds Tryz.pinned (.plain (OpenSpec.ofChange lexBlanksSpec)) lexBlanksCard

/-- THE TIED CARD OF 'runglaw12.LexWords'. -/
def lexWordsCard : Claim7 := { stood := { row := lexWordsRow, standIns := [], harness := (true, "39d32330e90e341c931952c937e99603328b2fe1435cb423ed33cc9641803255"), looks := true }, kinds := [], alts := [], laidByText := true, laidKinds := [.data, .data, .data, .handle, .sentinel, .sentinel, .listed, .data], laidTests := true, laidLooks := .later }
def LexWordsCardSaid : Prop := Claim7.holds Tryz.pinned (.plain (OpenSpec.ofChange lexWordsSpec)) lexWordsCard

/-- THE TIED CARD OF 'runglaw12.LexNumbers'. -/
def lexNumbersCard : Claim7 := { stood := { row := lexNumbersRow, standIns := [], harness := (true, "39d32330e90e341c931952c937e99603328b2fe1435cb423ed33cc9641803255"), looks := true }, kinds := [], alts := [], laidByText := true, laidKinds := [.data, .data, .data, .handle, .sentinel, .sentinel, .listed, .data], laidTests := true, laidLooks := .later }
def LexNumbersCardSaid : Prop := Claim7.holds Tryz.pinned (.plain (OpenSpec.ofChange lexNumbersSpec)) lexNumbersCard

/-- THE TIED CARD OF 'runglaw12.LexTimes'. -/
def lexTimesCard : Claim7 := { stood := { row := lexTimesRow, standIns := [], harness := (true, "39d32330e90e341c931952c937e99603328b2fe1435cb423ed33cc9641803255"), looks := true }, kinds := [], alts := [], laidByText := true, laidKinds := [.data, .data, .data, .handle, .sentinel, .sentinel, .listed, .data], laidTests := true, laidLooks := .later }
def LexTimesCardSaid : Prop := Claim7.holds Tryz.pinned (.plain (OpenSpec.ofChange lexTimesSpec)) lexTimesCard

/-- THE TIED CARD OF 'runglaw12.LexBounds'. -/
def lexBoundsCard : Claim7 := { stood := { row := lexBoundsRow, standIns := [], harness := (true, "39d32330e90e341c931952c937e99603328b2fe1435cb423ed33cc9641803255"), looks := true }, kinds := [], alts := [], laidByText := true, laidKinds := [.data, .data, .data, .handle, .sentinel, .sentinel, .listed, .data], laidTests := true, laidLooks := .later }
def LexBoundsCardSaid : Prop := Claim7.holds Tryz.pinned (.plain (OpenSpec.ofChange lexBoundsSpec)) lexBoundsCard

/-- THE SECOND FORM's CARD OF 'runglaw12.LexBlanks'. -/
def lexBlanksUptoCard : Claim7 := { stood := { row := lexBlanksUptoRow, standIns := [], harness := (true, "39d32330e90e341c931952c937e99603328b2fe1435cb423ed33cc9641803255"), looks := true }, kinds := [], alts := [], laidByText := true, laidKinds := [.data, .data, .data, .handle, .sentinel, .sentinel, .listed, .data], laidTests := true, laidLooks := .later }
def LexBlanksUptoCardSaid : Prop := Claim7.holds Tryz.pinned (.plain (OpenSpec.upto lexBlanksSpec)) lexBlanksUptoCard

/-- THE SECOND FORM's CARD OF 'runglaw12.LexWords'. -/
def lexWordsUptoCard : Claim7 := { stood := { row := lexWordsUptoRow, standIns := [], harness := (true, "39d32330e90e341c931952c937e99603328b2fe1435cb423ed33cc9641803255"), looks := true }, kinds := [], alts := [], laidByText := true, laidKinds := [.data, .data, .data, .handle, .sentinel, .sentinel, .listed, .data], laidTests := true, laidLooks := .later }
def LexWordsUptoCardSaid : Prop := Claim7.holds Tryz.pinned (.plain (OpenSpec.upto lexWordsSpec)) lexWordsUptoCard

/-- THE SECOND FORM's CARD OF 'runglaw12.LexNumbers'. -/
def lexNumbersUptoCard : Claim7 := { stood := { row := lexNumbersUptoRow, standIns := [], harness := (true, "39d32330e90e341c931952c937e99603328b2fe1435cb423ed33cc9641803255"), looks := true }, kinds := [], alts := [], laidByText := true, laidKinds := [.data, .data, .data, .handle, .sentinel, .sentinel, .listed, .data], laidTests := true, laidLooks := .later }
def LexNumbersUptoCardSaid : Prop := Claim7.holds Tryz.pinned (.plain (OpenSpec.upto lexNumbersSpec)) lexNumbersUptoCard

/-- THE SECOND FORM's CARD OF 'runglaw12.LexTimes'. -/
def lexTimesUptoCard : Claim7 := { stood := { row := lexTimesUptoRow, standIns := [], harness := (true, "39d32330e90e341c931952c937e99603328b2fe1435cb423ed33cc9641803255"), looks := true }, kinds := [], alts := [], laidByText := true, laidKinds := [.data, .data, .data, .handle, .sentinel, .sentinel, .listed, .data], laidTests := true, laidLooks := .later }
def LexTimesUptoCardSaid : Prop := Claim7.holds Tryz.pinned (.plain (OpenSpec.upto lexTimesSpec)) lexTimesUptoCard

/-- THE SECOND FORM's CARD OF 'runglaw12.LexBounds'. -/
def lexBoundsUptoCard : Claim7 := { stood := { row := lexBoundsUptoRow, standIns := [], harness := (true, "39d32330e90e341c931952c937e99603328b2fe1435cb423ed33cc9641803255"), looks := true }, kinds := [], alts := [], laidByText := true, laidKinds := [.data, .data, .data, .handle, .sentinel, .sentinel, .listed, .data], laidTests := true, laidLooks := .later }
def LexBoundsUptoCardSaid : Prop := Claim7.holds Tryz.pinned (.plain (OpenSpec.upto lexBoundsSpec)) lexBoundsUptoCard
end Rows
end Go.Proofs.YtfllgaoknigbnaaGreatDoor
