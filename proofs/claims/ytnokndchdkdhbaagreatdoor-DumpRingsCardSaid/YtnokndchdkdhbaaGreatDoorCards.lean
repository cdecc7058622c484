/-
  DERIVED. GIVEN WITH THE SEED: THE CARDS: each row of YtnokndchdkdhbaaGreatDoorRows.lean that lists a variable, with what it lists TIED to the program's text (the seventh form; the later family's looks); each row that meets fmt, with fmt's text TOLD by the authors' own Lean function (tested against real Go, not proved from fmt's source: count such statements apart). THE CARD IS WHAT COUNTS. Prove the row's statement (the work); the ties are given (YtnokndchdkdhbaaGreatDoorTie.lean); close each card by the builder's one call (the guide's Derived/Test/ToyasCard.lean, 'card_holds'). Laid BY PROGRAM, IN A SANDBOX (cutbox-door.mjs). By AI agents, Wed Nov 11 2026. No macro, syntax, notation, axiom, sorry.
-/
import Derived.Test.YtnokndchdkdhbaaGreatDoorRows
import GoSem.ClaimSeven
namespace Go.Proofs.YtnokndchdkdhbaaGreatDoor
namespace Rows

/-- THE TIED CARD OF 'federationlaw6.DumpRings'. -/
def dumpRingsCard : Claim7 := { stood := { row := dumpRingsRow, standIns := [], harness := (true, "04787e45147f120d0e8e6063a3a70c0b13f67273135f2187bfa1e93d275ebfd6"), looks := false }, kinds := [], alts := [], laidByText := true, laidKinds := [.data, .data, .data, .pinned, .data, .data, .listed], laidTests := true, laidLooks := .later }
def DumpRingsCardSaid : Prop := Claim7.holds Tryz.pinned (.plain (OpenSpec.ofChange dumpRingsSpec)) dumpRingsCard

/-- THE TIED CARD OF 'federationlaw6.DumpMarks'. -/
def dumpMarksCard : Claim7 := { stood := { row := dumpMarksRow, standIns := [], harness := (true, "04787e45147f120d0e8e6063a3a70c0b13f67273135f2187bfa1e93d275ebfd6"), looks := false }, kinds := [], alts := [], laidByText := true, laidKinds := [.data, .data, .data, .pinned, .data, .data, .listed], laidTests := true, laidLooks := .later }
def DumpMarksCardSaid : Prop := Claim7.holds Tryz.pinned (.plain (OpenSpec.ofChange dumpMarksSpec)) dumpMarksCard

/-- THE TIED CARD OF 'federationlaw12.ClusterWaits'. -/
def clusterWaitsCard : Claim7 := { stood := { row := clusterWaitsRow, standIns := [], harness := (true, "04787e45147f120d0e8e6063a3a70c0b13f67273135f2187bfa1e93d275ebfd6"), looks := false }, kinds := [], alts := [], laidByText := true, laidKinds := [.data, .listed, .pinned, .data, .data, .data, .data], laidTests := true, laidLooks := .later }
def ClusterWaitsCardSaid : Prop := Claim7.holds Tryz.pinned (.plain (OpenSpec.ofChange clusterWaitsSpec)) clusterWaitsCard

/-- THE SECOND FORM's CARD OF 'federationlaw6.DumpRings'. -/
def dumpRingsUptoCard : Claim7 := { stood := { row := dumpRingsUptoRow, standIns := [], harness := (true, "04787e45147f120d0e8e6063a3a70c0b13f67273135f2187bfa1e93d275ebfd6"), looks := false }, kinds := [], alts := [], laidByText := true, laidKinds := [.data, .data, .data, .pinned, .data, .data, .listed], laidTests := true, laidLooks := .later }
def DumpRingsUptoCardSaid : Prop := Claim7.holds Tryz.pinned (.plain (OpenSpec.upto dumpRingsSpec)) dumpRingsUptoCard

/-- THE SECOND FORM's CARD OF 'federationlaw6.DumpMarks'. -/
def dumpMarksUptoCard : Claim7 := { stood := { row := dumpMarksUptoRow, standIns := [], harness := (true, "04787e45147f120d0e8e6063a3a70c0b13f67273135f2187bfa1e93d275ebfd6"), looks := false }, kinds := [], alts := [], laidByText := true, laidKinds := [.data, .data, .data, .pinned, .data, .data, .listed], laidTests := true, laidLooks := .later }
def DumpMarksUptoCardSaid : Prop := Claim7.holds Tryz.pinned (.plain (OpenSpec.upto dumpMarksSpec)) dumpMarksUptoCard

/-- THE SECOND FORM's CARD OF 'federationlaw12.ClusterWaits'. -/
def clusterWaitsUptoCard : Claim7 := { stood := { row := clusterWaitsUptoRow, standIns := [], harness := (true, "04787e45147f120d0e8e6063a3a70c0b13f67273135f2187bfa1e93d275ebfd6"), looks := false }, kinds := [], alts := [], laidByText := true, laidKinds := [.data, .listed, .pinned, .data, .data, .data, .data], laidTests := true, laidLooks := .later }
def ClusterWaitsUptoCardSaid : Prop := Claim7.holds Tryz.pinned (.plain (OpenSpec.upto clusterWaitsSpec)) clusterWaitsUptoCard
end Rows
end Go.Proofs.YtnokndchdkdhbaaGreatDoor
