/-
  DERIVED. GIVEN WITH THE SEED: THE CARDS: each row of YtebdmlmbdfnkfaaGreatDoorRows.lean that lists a variable, with what it lists TIED to the program's text (the seventh form; the later family's looks); each row that meets fmt, with fmt's text TOLD by the authors' own Lean function (tested against real Go, not proved from fmt's source: count such statements apart). THE CARD IS WHAT COUNTS. Prove the row's statement (the work); the ties are given (YtebdmlmbdfnkfaaGreatDoorTie.lean); close each card by the builder's one call (the guide's Derived/Test/ToyasCard.lean, 'card_holds'). Laid BY PROGRAM, IN A SANDBOX (cutbox-door.mjs). By AI agents, Wed Nov 11 2026. No macro, syntax, notation, axiom, sorry.
-/
import Derived.Test.YtebdmlmbdfnkfaaGreatDoorRows
import GoSem.ClaimSeven
namespace Go.Proofs.YtebdmlmbdfnkfaaGreatDoor
namespace Rows

/-- THE TIED CARD OF 'bodegalaw32.ClientSubmits'. -/
def clientSubmitsCard : Claim7 := { stood := { row := clientSubmitsRow, standIns := [], harness := (true, "7492ef70a1a88fa84d9a2d40884b98165552fcdcd60704cb76fb2cffd32a19a6"), looks := false }, kinds := [], alts := [], laidByText := true, laidKinds := [.data, .data], laidTests := true, laidLooks := .later }
def ClientSubmitsCardSaid : Prop := Claim7.holds Tryz.pinned (.plain (OpenSpec.ofChange clientSubmitsSpec)) clientSubmitsCard

/-- THE TIED CARD OF 'bodegalaw32.ClientNew'. -/
def clientNewCard : Claim7 := { stood := { row := clientNewRow, standIns := [], harness := (true, "7492ef70a1a88fa84d9a2d40884b98165552fcdcd60704cb76fb2cffd32a19a6"), looks := false }, kinds := [], alts := [], laidByText := true, laidKinds := [.data, .data], laidTests := true, laidLooks := .later }
def ClientNewCardSaid : Prop := Claim7.holds Tryz.pinned (.plain (OpenSpec.ofChange clientNewSpec)) clientNewCard

/-- THE TIED CARD OF 'bodegalaw33.ClusterNew'. -/
def clusterNewCard : Claim7 := { stood := { row := clusterNewRow, standIns := [], harness := (true, "7492ef70a1a88fa84d9a2d40884b98165552fcdcd60704cb76fb2cffd32a19a6"), looks := false }, kinds := [], alts := [], laidByText := true, laidKinds := [.data, .data], laidTests := true, laidLooks := .later }
def ClusterNewCardSaid : Prop := Claim7.holds Tryz.pinned (.plain (OpenSpec.ofChange clusterNewSpec)) clusterNewCard

/-- THE SECOND FORM's CARD OF 'bodegalaw32.ClientSubmits'. -/
def clientSubmitsUptoCard : Claim7 := { stood := { row := clientSubmitsUptoRow, standIns := [], harness := (true, "7492ef70a1a88fa84d9a2d40884b98165552fcdcd60704cb76fb2cffd32a19a6"), looks := false }, kinds := [], alts := [], laidByText := true, laidKinds := [.data, .data], laidTests := true, laidLooks := .later }
def ClientSubmitsUptoCardSaid : Prop := Claim7.holds Tryz.pinned (.plain (OpenSpec.upto clientSubmitsSpec)) clientSubmitsUptoCard

/-- THE SECOND FORM's CARD OF 'bodegalaw32.ClientNew'. -/
def clientNewUptoCard : Claim7 := { stood := { row := clientNewUptoRow, standIns := [], harness := (true, "7492ef70a1a88fa84d9a2d40884b98165552fcdcd60704cb76fb2cffd32a19a6"), looks := false }, kinds := [], alts := [], laidByText := true, laidKinds := [.data, .data], laidTests := true, laidLooks := .later }
def ClientNewUptoCardSaid : Prop := Claim7.holds Tryz.pinned (.plain (OpenSpec.upto clientNewSpec)) clientNewUptoCard

/-- THE SECOND FORM's CARD OF 'bodegalaw33.ClusterNew'. -/
def clusterNewUptoCard : Claim7 := { stood := { row := clusterNewUptoRow, standIns := [], harness := (true, "7492ef70a1a88fa84d9a2d40884b98165552fcdcd60704cb76fb2cffd32a19a6"), looks := false }, kinds := [], alts := [], laidByText := true, laidKinds := [.data, .data], laidTests := true, laidLooks := .later }
def ClusterNewUptoCardSaid : Prop := Claim7.holds Tryz.pinned (.plain (OpenSpec.upto clusterNewSpec)) clusterNewUptoCard
end Rows
end Go.Proofs.YtebdmlmbdfnkfaaGreatDoor
