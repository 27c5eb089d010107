/-
  DERIVED. GIVEN WITH THE SEED: THE CARDS: each row of YtlapmbkfmbkdoaaGreatDoorRows.lean that lists a variable, with what it lists TIED to the program's text (the seventh form; the later family's looks); each row that meets fmt, with fmt's text TOLD by the authors' own Lean function (tested against real Go, not proved from fmt's source: count such statements apart). THE CARD IS WHAT COUNTS. Prove the row's statement (the work); the ties are given (YtlapmbkfmbkdoaaGreatDoorTie.lean); close each card by the builder's one call (the guide's Derived/Test/ToyasCard.lean, 'card_holds'). Laid BY PROGRAM, IN A SANDBOX (cutbox-door.mjs). By AI agents, Wed Nov 11 2026. No macro, syntax, notation, axiom, sorry.
-/
import Derived.Test.YtlapmbkfmbkdoaaGreatDoorRows
import GoSem.ClaimSeven
namespace Go.Proofs.YtlapmbkfmbkdoaaGreatDoor
namespace Rows

/-- THE TIED CARD OF 'causewaylaw10.MachineTexts'. -/
def machineTextsCard : Claim7 := { stood := { row := machineTextsRow, standIns := [], harness := (true, "c4038cdab18fc4e0a1a6bee60ebfef707e5e8a083c7384509e24abd157fd5264"), looks := false }, kinds := [], alts := [], laidByText := true, laidKinds := [.data, .data, .data], laidTests := true, laidLooks := .later }
def MachineTextsCardSaid : Prop := Claim7.holds Tryz.pinned (.plain (OpenSpec.ofChange machineTextsSpec)) machineTextsCard

/-- THE TIED CARD OF 'causewaylaw10.MachineKeeps'. -/
def machineKeepsCard : Claim7 := { stood := { row := machineKeepsRow, standIns := [], harness := (true, "c4038cdab18fc4e0a1a6bee60ebfef707e5e8a083c7384509e24abd157fd5264"), looks := false }, kinds := [], alts := [], laidByText := true, laidKinds := [.data, .data, .data], laidTests := true, laidLooks := .later }
def MachineKeepsCardSaid : Prop := Claim7.holds Tryz.pinned (.plain (OpenSpec.ofChange machineKeepsSpec)) machineKeepsCard

/-- THE TIED CARD OF 'causewaylaw10.MachineAssembles'. -/
def machineAssemblesCard : Claim7 := { stood := { row := machineAssemblesRow, standIns := [], harness := (true, "c4038cdab18fc4e0a1a6bee60ebfef707e5e8a083c7384509e24abd157fd5264"), looks := false }, kinds := [], alts := [], laidByText := true, laidKinds := [.data, .pinned], laidTests := true, laidLooks := .later }
def MachineAssemblesCardSaid : Prop := Claim7.holds Tryz.pinned (.plain (OpenSpec.ofChange machineAssemblesSpec)) machineAssemblesCard

/-- THE TIED CARD OF 'causewaylaw10.MachineNew'. -/
def machineNewCard : Claim7 := { stood := { row := machineNewRow, standIns := [], harness := (true, "c4038cdab18fc4e0a1a6bee60ebfef707e5e8a083c7384509e24abd157fd5264"), looks := false }, kinds := [], alts := [], laidByText := true, laidKinds := [.data, .pinned], laidTests := true, laidLooks := .later }
def MachineNewCardSaid : Prop := Claim7.holds Tryz.pinned (.plain (OpenSpec.ofChange machineNewSpec)) machineNewCard

/-- THE TIED CARD OF 'causewaylaw10.MachineThereAndBack'. -/
def machineThereAndBackCard : Claim7 := { stood := { row := machineThereAndBackRow, standIns := [], harness := (true, "c4038cdab18fc4e0a1a6bee60ebfef707e5e8a083c7384509e24abd157fd5264"), looks := false }, kinds := [], alts := [], laidByText := true, laidKinds := [.data, .data, .data, .data, .pinned], laidTests := true, laidLooks := .later }
def MachineThereAndBackCardSaid : Prop := Claim7.holds Tryz.pinned (.plain (OpenSpec.ofChange machineThereAndBackSpec)) machineThereAndBackCard

/-- THE SECOND FORM's CARD OF 'causewaylaw10.MachineTexts'. -/
def machineTextsUptoCard : Claim7 := { stood := { row := machineTextsUptoRow, standIns := [], harness := (true, "c4038cdab18fc4e0a1a6bee60ebfef707e5e8a083c7384509e24abd157fd5264"), looks := false }, kinds := [], alts := [], laidByText := true, laidKinds := [.data, .data, .data], laidTests := true, laidLooks := .later }
def MachineTextsUptoCardSaid : Prop := Claim7.holds Tryz.pinned (.plain (OpenSpec.upto machineTextsSpec)) machineTextsUptoCard

/-- THE SECOND FORM's CARD OF 'causewaylaw10.MachineKeeps'. -/
def machineKeepsUptoCard : Claim7 := { stood := { row := machineKeepsUptoRow, standIns := [], harness := (true, "c4038cdab18fc4e0a1a6bee60ebfef707e5e8a083c7384509e24abd157fd5264"), looks := false }, kinds := [], alts := [], laidByText := true, laidKinds := [.data, .data, .data], laidTests := true, laidLooks := .later }
def MachineKeepsUptoCardSaid : Prop := Claim7.holds Tryz.pinned (.plain (OpenSpec.upto machineKeepsSpec)) machineKeepsUptoCard

/-- THE SECOND FORM's CARD OF 'causewaylaw10.MachineAssembles'. -/
def machineAssemblesUptoCard : Claim7 := { stood := { row := machineAssemblesUptoRow, standIns := [], harness := (true, "c4038cdab18fc4e0a1a6bee60ebfef707e5e8a083c7384509e24abd157fd5264"), looks := false }, kinds := [], alts := [], laidByText := true, laidKinds := [.data, .pinned], laidTests := true, laidLooks := .later }
def MachineAssemblesUptoCardSaid : Prop := Claim7.holds Tryz.pinned (.plain (OpenSpec.upto machineAssemblesSpec)) machineAssemblesUptoCard

/-- THE SECOND FORM's CARD OF 'causewaylaw10.MachineNew'. -/
def machineNewUptoCard : Claim7 := { stood := { row := machineNewUptoRow, standIns := [], harness := (true, "c4038cdab18fc4e0a1a6bee60ebfef707e5e8a083c7384509e24abd157fd5264"), looks := false }, kinds := [], alts := [], laidByText := true, laidKinds := [.data, .pinned], laidTests := true, laidLooks := .later }
def MachineNewUptoCardSaid : Prop := Claim7.holds Tryz.pinned (.plain (OpenSpec.upto machineNewSpec)) machineNewUptoCard

/-- THE SECOND FORM's CARD OF 'causewaylaw10.MachineThereAndBack'. -/
def machineThereAndBackUptoCard : Claim7 := { stood := { row := machineThereAndBackUptoRow, standIns := [], harness := (true, "c4038cdab18fc4e0a1a6bee60ebfef707e5e8a083c7384509e24abd157fd5264"), looks := false }, kinds := [], alts := [], laidByText := true, laidKinds := [.data, .data, .data, .data, .pinned], laidTests := true, laidLooks := .later }
def MachineThereAndBackUptoCardSaid : Prop := Claim7.holds Tryz.pinned (.plain (OpenSpec.upto machineThereAndBackSpec)) machineThereAndBackUptoCard
end Rows
end Go.Proofs.YtlapmbkfmbkdoaaGreatDoor
