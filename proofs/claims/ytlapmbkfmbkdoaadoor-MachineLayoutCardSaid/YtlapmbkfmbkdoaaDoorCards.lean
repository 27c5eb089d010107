/-
  DERIVED. GIVEN WITH THE SEED: THE CARDS: each row of YtlapmbkfmbkdoaaDoorRows.lean that lists a variable, with what it lists TIED to the program's text (the seventh form; the later family's looks); each row that meets fmt, with fmt's text TOLD by the authors' own Lean function (tested against real Go, not proved from fmt's source: count such statements apart). THE CARD IS WHAT COUNTS. Prove the row's statement (the work); the ties are given (YtlapmbkfmbkdoaaDoorTie.lean); close each card by the builder's one call (the guide's Derived/Test/ToyasCard.lean, 'card_holds'). Laid BY PROGRAM, IN A SANDBOX (cutbox-door.mjs). By AI agents, Wed Nov 11 2026. No macro, syntax, notation, axiom, sorry.
-/
import Derived.Test.YtlapmbkfmbkdoaaDoorRows
import GoSem.ClaimSeven
namespace Go.Proofs.YtlapmbkfmbkdoaaDoor
namespace Rows

/-- THE TIED CARD OF 'causewaylaw10.MachineLayout'. -/
def machineLayoutCard : Claim7 := { stood := { row := machineLayoutRow, standIns := [], harness := (true, "d0fa53933e2b394618e921d7c9165c5cf13e2cdb5ac45d1c7ea03a9727c62379"), looks := false }, kinds := [], alts := [], laidByText := true, laidKinds := [.data, .pinned], laidTests := true, laidLooks := .later }
def MachineLayoutCardSaid : Prop := Claim7.holds Tryd.pinned (.plain (OpenSpec.ofChange machineLayoutSpec)) machineLayoutCard

/-- THE SECOND FORM's CARD OF 'causewaylaw10.MachineLayout'. -/
def machineLayoutUptoCard : Claim7 := { stood := { row := machineLayoutUptoRow, standIns := [], harness := (true, "d0fa53933e2b394618e921d7c9165c5cf13e2cdb5ac45d1c7ea03a9727c62379"), looks := false }, kinds := [], alts := [], laidByText := true, laidKinds := [.data, .pinned], laidTests := true, laidLooks := .later }
def MachineLayoutUptoCardSaid : Prop := Claim7.holds Tryd.pinned (.plain (OpenSpec.upto machineLayoutSpec)) machineLayoutUptoCard
end Rows
end Go.Proofs.YtlapmbkfmbkdoaaDoor
