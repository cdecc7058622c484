/-
  DERIVED. GIVEN WITH THE SEED: THE CARDS: each row of YtndjadliihggpaaGreatDoorRows.lean that lists a variable, with what it lists TIED to the program's text (the seventh form; the later family's looks); each row that meets fmt, with fmt's text TOLD by the authors' own Lean function (tested against real Go, not proved from fmt's source: count such statements apart). THE CARD IS WHAT COUNTS. Prove the row's statement (the work); the ties are given (YtndjadliihggpaaGreatDoorTie.lean); close each card by the builder's one call (the guide's Derived/Test/ToyasCard.lean, 'card_holds'). Laid BY PROGRAM, IN A SANDBOX (cutbox-door.mjs). By AI agents, Wed Nov 11 2026. No macro, syntax, notation, axiom, sorry.
-/
import Derived.Test.YtndjadliihggpaaGreatDoorRows
import GoSem.ClaimSeven
namespace Go.Proofs.YtndjadliihggpaaGreatDoor
namespace Rows

/-- THE TIED CARD OF 'federationlaw5.DbKnown'. -/
def dbKnownCard : Claim7 := { stood := { row := dbKnownRow, standIns := [], harness := (true, "57101cddd19b5ffcfc9093984309bb36c54567d4e789da2cbc2610a6136134c6"), looks := false }, kinds := [], alts := [], laidByText := true, laidKinds := [.data, .data, .data, .data, .listed, .data, .pinned], laidTests := true, laidLooks := .later }
def DbKnownCardSaid : Prop := Claim7.holds Tryz.pinned (.plain (OpenSpec.ofChange dbKnownSpec)) dbKnownCard

/-- THE TIED CARD OF 'federationlaw5.DbKeys'. -/
def dbKeysCard : Claim7 := { stood := { row := dbKeysRow, standIns := [], harness := (true, "57101cddd19b5ffcfc9093984309bb36c54567d4e789da2cbc2610a6136134c6"), looks := false }, kinds := [], alts := [], laidByText := true, laidKinds := [.data, .data, .data, .data, .listed, .data, .pinned], laidTests := true, laidLooks := .later }
def DbKeysCardSaid : Prop := Claim7.holds Tryz.pinned (.plain (OpenSpec.ofChange dbKeysSpec)) dbKeysCard

/-- THE TIED CARD OF 'federationlaw5.DbRows'. -/
def dbRowsCard : Claim7 := { stood := { row := dbRowsRow, standIns := [], harness := (true, "57101cddd19b5ffcfc9093984309bb36c54567d4e789da2cbc2610a6136134c6"), looks := false }, kinds := [], alts := [], laidByText := true, laidKinds := [.data, .data, .data, .data, .listed, .data, .pinned], laidTests := true, laidLooks := .later }
def DbRowsCardSaid : Prop := Claim7.holds Tryz.pinned (.plain (OpenSpec.ofChange dbRowsSpec)) dbRowsCard

/-- THE TIED CARD OF 'federationlaw5.DbLinks'. -/
def dbLinksCard : Claim7 := { stood := { row := dbLinksRow, standIns := [], harness := (true, "57101cddd19b5ffcfc9093984309bb36c54567d4e789da2cbc2610a6136134c6"), looks := false }, kinds := [], alts := [], laidByText := true, laidKinds := [.data, .data, .data, .data, .listed, .data, .pinned], laidTests := true, laidLooks := .later }
def DbLinksCardSaid : Prop := Claim7.holds Tryz.pinned (.plain (OpenSpec.ofChange dbLinksSpec)) dbLinksCard

/-- THE TIED CARD OF 'federationlaw11.CoordHomes'. -/
def coordHomesCard : Claim7 := { stood := { row := coordHomesRow, standIns := [], harness := (true, "57101cddd19b5ffcfc9093984309bb36c54567d4e789da2cbc2610a6136134c6"), looks := false }, kinds := [], alts := [], laidByText := true, laidKinds := [.data, .data, .data, .data, .listed, .data, .pinned], laidTests := true, laidLooks := .later }
def CoordHomesCardSaid : Prop := Claim7.holds Tryz.pinned (.plain (OpenSpec.ofChange coordHomesSpec)) coordHomesCard

/-- THE TIED CARD OF 'federationlaw11.CoordIds'. -/
def coordIdsCard : Claim7 := { stood := { row := coordIdsRow, standIns := [], harness := (true, "57101cddd19b5ffcfc9093984309bb36c54567d4e789da2cbc2610a6136134c6"), looks := false }, kinds := [], alts := [], laidByText := true, laidKinds := [.data, .data, .data, .data, .listed, .data, .pinned], laidTests := true, laidLooks := .later }
def CoordIdsCardSaid : Prop := Claim7.holds Tryz.pinned (.plain (OpenSpec.ofChange coordIdsSpec)) coordIdsCard

/-- THE SECOND FORM's CARD OF 'federationlaw5.DbKnown'. -/
def dbKnownUptoCard : Claim7 := { stood := { row := dbKnownUptoRow, standIns := [], harness := (true, "57101cddd19b5ffcfc9093984309bb36c54567d4e789da2cbc2610a6136134c6"), looks := false }, kinds := [], alts := [], laidByText := true, laidKinds := [.data, .data, .data, .data, .listed, .data, .pinned], laidTests := true, laidLooks := .later }
def DbKnownUptoCardSaid : Prop := Claim7.holds Tryz.pinned (.plain (OpenSpec.upto dbKnownSpec)) dbKnownUptoCard

/-- THE SECOND FORM's CARD OF 'federationlaw5.DbKeys'. -/
def dbKeysUptoCard : Claim7 := { stood := { row := dbKeysUptoRow, standIns := [], harness := (true, "57101cddd19b5ffcfc9093984309bb36c54567d4e789da2cbc2610a6136134c6"), looks := false }, kinds := [], alts := [], laidByText := true, laidKinds := [.data, .data, .data, .data, .listed, .data, .pinned], laidTests := true, laidLooks := .later }
def DbKeysUptoCardSaid : Prop := Claim7.holds Tryz.pinned (.plain (OpenSpec.upto dbKeysSpec)) dbKeysUptoCard

/-- THE SECOND FORM's CARD OF 'federationlaw5.DbRows'. -/
def dbRowsUptoCard : Claim7 := { stood := { row := dbRowsUptoRow, standIns := [], harness := (true, "57101cddd19b5ffcfc9093984309bb36c54567d4e789da2cbc2610a6136134c6"), looks := false }, kinds := [], alts := [], laidByText := true, laidKinds := [.data, .data, .data, .data, .listed, .data, .pinned], laidTests := true, laidLooks := .later }
def DbRowsUptoCardSaid : Prop := Claim7.holds Tryz.pinned (.plain (OpenSpec.upto dbRowsSpec)) dbRowsUptoCard

/-- THE SECOND FORM's CARD OF 'federationlaw5.DbLinks'. -/
def dbLinksUptoCard : Claim7 := { stood := { row := dbLinksUptoRow, standIns := [], harness := (true, "57101cddd19b5ffcfc9093984309bb36c54567d4e789da2cbc2610a6136134c6"), looks := false }, kinds := [], alts := [], laidByText := true, laidKinds := [.data, .data, .data, .data, .listed, .data, .pinned], laidTests := true, laidLooks := .later }
def DbLinksUptoCardSaid : Prop := Claim7.holds Tryz.pinned (.plain (OpenSpec.upto dbLinksSpec)) dbLinksUptoCard

/-- THE SECOND FORM's CARD OF 'federationlaw11.CoordHomes'. -/
def coordHomesUptoCard : Claim7 := { stood := { row := coordHomesUptoRow, standIns := [], harness := (true, "57101cddd19b5ffcfc9093984309bb36c54567d4e789da2cbc2610a6136134c6"), looks := false }, kinds := [], alts := [], laidByText := true, laidKinds := [.data, .data, .data, .data, .listed, .data, .pinned], laidTests := true, laidLooks := .later }
def CoordHomesUptoCardSaid : Prop := Claim7.holds Tryz.pinned (.plain (OpenSpec.upto coordHomesSpec)) coordHomesUptoCard

/-- THE SECOND FORM's CARD OF 'federationlaw11.CoordIds'. -/
def coordIdsUptoCard : Claim7 := { stood := { row := coordIdsUptoRow, standIns := [], harness := (true, "57101cddd19b5ffcfc9093984309bb36c54567d4e789da2cbc2610a6136134c6"), looks := false }, kinds := [], alts := [], laidByText := true, laidKinds := [.data, .data, .data, .data, .listed, .data, .pinned], laidTests := true, laidLooks := .later }
def CoordIdsUptoCardSaid : Prop := Claim7.holds Tryz.pinned (.plain (OpenSpec.upto coordIdsSpec)) coordIdsUptoCard
end Rows
end Go.Proofs.YtndjadliihggpaaGreatDoor
