/-
  DERIVED. GIVEN WITH THE SEED: THE CARDS: each row of YtglejgncbghngaaGreatDoorRows.lean that lists a variable, with what it lists TIED to the program's text (the seventh form; the later family's looks); each row that meets fmt, with fmt's text TOLD by the authors' own Lean function (tested against real Go, not proved from fmt's source: count such statements apart). THE CARD IS WHAT COUNTS. Prove the row's statement (the work); the ties are given (YtglejgncbghngaaGreatDoorTie.lean); close each card by the builder's one call (the guide's Derived/Test/ToyasCard.lean, 'card_holds'). Laid BY PROGRAM, IN A SANDBOX (cutbox-door.mjs). By AI agents, Wed Nov 11 2026. No macro, syntax, notation, axiom, sorry.
-/
import Derived.Test.YtglejgncbghngaaGreatDoorRows
import GoSem.ClaimSeven
namespace Go.Proofs.YtglejgncbghngaaGreatDoor
namespace Rows

/-- THE TIED CARD OF 'federationlaw12.ClusterAbandons'. -/
def clusterAbandonsCard : Claim7 := { stood := { row := clusterAbandonsRow, standIns := [], harness := (true, "9fedd28963e2d2bd93d7e5acbf230b0d3fd819c8eeb03355d41a5e3a707b4c69"), looks := false }, kinds := [], alts := [], laidByText := true, laidKinds := [.data, .listed, .pinned, .data, .data, .data, .data], laidTests := true, laidLooks := .later }
def ClusterAbandonsCardSaid : Prop := Claim7.holds Tryz.pinned (.plain (OpenSpec.ofChange clusterAbandonsSpec)) clusterAbandonsCard

/-- THE TIED CARD OF 'federationlaw6.DumpOrder'. -/
def dumpOrderCard : Claim7 := { stood := { row := dumpOrderRow, standIns := [], harness := (true, "9fedd28963e2d2bd93d7e5acbf230b0d3fd819c8eeb03355d41a5e3a707b4c69"), looks := false }, kinds := [], alts := [], laidByText := true, laidKinds := [.data, .data, .data, .pinned, .data, .data, .listed], laidTests := true, laidLooks := .later }
def DumpOrderCardSaid : Prop := Claim7.holds Tryz.pinned (.plain (OpenSpec.ofChange dumpOrderSpec)) dumpOrderCard

/-- THE SECOND FORM's CARD OF 'federationlaw12.ClusterAbandons'. -/
def clusterAbandonsUptoCard : Claim7 := { stood := { row := clusterAbandonsUptoRow, standIns := [], harness := (true, "9fedd28963e2d2bd93d7e5acbf230b0d3fd819c8eeb03355d41a5e3a707b4c69"), looks := false }, kinds := [], alts := [], laidByText := true, laidKinds := [.data, .listed, .pinned, .data, .data, .data, .data], laidTests := true, laidLooks := .later }
def ClusterAbandonsUptoCardSaid : Prop := Claim7.holds Tryz.pinned (.plain (OpenSpec.upto clusterAbandonsSpec)) clusterAbandonsUptoCard

/-- THE SECOND FORM's CARD OF 'federationlaw6.DumpOrder'. -/
def dumpOrderUptoCard : Claim7 := { stood := { row := dumpOrderUptoRow, standIns := [], harness := (true, "9fedd28963e2d2bd93d7e5acbf230b0d3fd819c8eeb03355d41a5e3a707b4c69"), looks := false }, kinds := [], alts := [], laidByText := true, laidKinds := [.data, .data, .data, .pinned, .data, .data, .listed], laidTests := true, laidLooks := .later }
def DumpOrderUptoCardSaid : Prop := Claim7.holds Tryz.pinned (.plain (OpenSpec.upto dumpOrderSpec)) dumpOrderUptoCard
end Rows
end Go.Proofs.YtglejgncbghngaaGreatDoor
