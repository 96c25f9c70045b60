/-
  DERIVED. GIVEN WITH THE SEED: THE CARDS: each row of YtggpohgoebicjaaGreatDoorRows.lean that lists a variable, with what it lists TIED to the program's text (the seventh form; the later family's looks); each row that meets fmt, with fmt's text TOLD by the authors' own Lean function (tested against real Go, not proved from fmt's source: count such statements apart). THE CARD IS WHAT COUNTS. Prove the row's statement (the work); the ties are given (YtggpohgoebicjaaGreatDoorTie.lean); close each card by the builder's one call (the guide's Derived/Test/ToyasCard.lean, 'card_holds'). Laid BY PROGRAM, IN A SANDBOX (cutbox-door.mjs). By AI agents, Wed Nov 11 2026. No macro, syntax, notation, axiom, sorry.
-/
import Derived.Test.YtggpohgoebicjaaGreatDoorRows
import GoSem.ClaimSeven
namespace Go.Proofs.YtggpohgoebicjaaGreatDoor
namespace Rows

/-- THE TIED CARD OF 'strongtxlaw20.ThreadFaults'. -/
def threadFaultsCard : Claim7 := { stood := { row := threadFaultsRow, standIns := [], harness := (true, "826f5ae1f43cc8d94bdf51a30255946e672585476090e3208a297cef737f38af"), looks := false }, kinds := [], alts := [], laidByText := true, laidKinds := [.data], laidTests := true, laidLooks := .later }
def ThreadFaultsCardSaid : Prop := Claim7.holds Tryz.pinned (.plain (OpenSpec.ofChange threadFaultsSpec)) threadFaultsCard

/-- THE TIED CARD OF 'strongtxlaw21.MachineRuns'. -/
def machineRunsCard : Claim7 := { stood := { row := machineRunsRow, standIns := [], harness := (true, "826f5ae1f43cc8d94bdf51a30255946e672585476090e3208a297cef737f38af"), looks := false }, kinds := [], alts := [], laidByText := true, laidKinds := [.data], laidTests := true, laidLooks := .later }
def MachineRunsCardSaid : Prop := Claim7.holds Tryz.pinned (.plain (OpenSpec.ofChange machineRunsSpec)) machineRunsCard

/-- THE TIED CARD OF 'strongtxlaw21.MachinePrefix'. -/
def machinePrefixCard : Claim7 := { stood := { row := machinePrefixRow, standIns := [], harness := (true, "826f5ae1f43cc8d94bdf51a30255946e672585476090e3208a297cef737f38af"), looks := false }, kinds := [], alts := [], laidByText := true, laidKinds := [.data], laidTests := true, laidLooks := .later }
def MachinePrefixCardSaid : Prop := Claim7.holds Tryz.pinned (.plain (OpenSpec.ofChange machinePrefixSpec)) machinePrefixCard

/-- THE TIED CARD OF 'strongtxlaw21.MachineCells'. -/
def machineCellsCard : Claim7 := { stood := { row := machineCellsRow, standIns := [], harness := (true, "826f5ae1f43cc8d94bdf51a30255946e672585476090e3208a297cef737f38af"), looks := false }, kinds := [], alts := [], laidByText := true, laidKinds := [.data], laidTests := true, laidLooks := .later }
def MachineCellsCardSaid : Prop := Claim7.holds Tryz.pinned (.plain (OpenSpec.ofChange machineCellsSpec)) machineCellsCard

/-- THE TIED CARD OF 'strongtxlaw21.MachineTurns'. -/
def machineTurnsCard : Claim7 := { stood := { row := machineTurnsRow, standIns := [], harness := (true, "826f5ae1f43cc8d94bdf51a30255946e672585476090e3208a297cef737f38af"), looks := false }, kinds := [], alts := [], laidByText := true, laidKinds := [.data], laidTests := true, laidLooks := .later }
def MachineTurnsCardSaid : Prop := Claim7.holds Tryz.pinned (.plain (OpenSpec.ofChange machineTurnsSpec)) machineTurnsCard

/-- THE TIED CARD OF 'strongtxlaw21.MachinePicks'. -/
def machinePicksCard : Claim7 := { stood := { row := machinePicksRow, standIns := [], harness := (true, "826f5ae1f43cc8d94bdf51a30255946e672585476090e3208a297cef737f38af"), looks := false }, kinds := [], alts := [], laidByText := true, laidKinds := [.data], laidTests := true, laidLooks := .later }
def MachinePicksCardSaid : Prop := Claim7.holds Tryz.pinned (.plain (OpenSpec.ofChange machinePicksSpec)) machinePicksCard

/-- THE SECOND FORM's CARD OF 'strongtxlaw20.ThreadFaults'. -/
def threadFaultsUptoCard : Claim7 := { stood := { row := threadFaultsUptoRow, standIns := [], harness := (true, "826f5ae1f43cc8d94bdf51a30255946e672585476090e3208a297cef737f38af"), looks := false }, kinds := [], alts := [], laidByText := true, laidKinds := [.data], laidTests := true, laidLooks := .later }
def ThreadFaultsUptoCardSaid : Prop := Claim7.holds Tryz.pinned (.plain (OpenSpec.upto threadFaultsSpec)) threadFaultsUptoCard

/-- THE SECOND FORM's CARD OF 'strongtxlaw21.MachineRuns'. -/
def machineRunsUptoCard : Claim7 := { stood := { row := machineRunsUptoRow, standIns := [], harness := (true, "826f5ae1f43cc8d94bdf51a30255946e672585476090e3208a297cef737f38af"), looks := false }, kinds := [], alts := [], laidByText := true, laidKinds := [.data], laidTests := true, laidLooks := .later }
def MachineRunsUptoCardSaid : Prop := Claim7.holds Tryz.pinned (.plain (OpenSpec.upto machineRunsSpec)) machineRunsUptoCard

/-- THE SECOND FORM's CARD OF 'strongtxlaw21.MachinePrefix'. -/
def machinePrefixUptoCard : Claim7 := { stood := { row := machinePrefixUptoRow, standIns := [], harness := (true, "826f5ae1f43cc8d94bdf51a30255946e672585476090e3208a297cef737f38af"), looks := false }, kinds := [], alts := [], laidByText := true, laidKinds := [.data], laidTests := true, laidLooks := .later }
def MachinePrefixUptoCardSaid : Prop := Claim7.holds Tryz.pinned (.plain (OpenSpec.upto machinePrefixSpec)) machinePrefixUptoCard

/-- THE SECOND FORM's CARD OF 'strongtxlaw21.MachineCells'. -/
def machineCellsUptoCard : Claim7 := { stood := { row := machineCellsUptoRow, standIns := [], harness := (true, "826f5ae1f43cc8d94bdf51a30255946e672585476090e3208a297cef737f38af"), looks := false }, kinds := [], alts := [], laidByText := true, laidKinds := [.data], laidTests := true, laidLooks := .later }
def MachineCellsUptoCardSaid : Prop := Claim7.holds Tryz.pinned (.plain (OpenSpec.upto machineCellsSpec)) machineCellsUptoCard

/-- THE SECOND FORM's CARD OF 'strongtxlaw21.MachineTurns'. -/
def machineTurnsUptoCard : Claim7 := { stood := { row := machineTurnsUptoRow, standIns := [], harness := (true, "826f5ae1f43cc8d94bdf51a30255946e672585476090e3208a297cef737f38af"), looks := false }, kinds := [], alts := [], laidByText := true, laidKinds := [.data], laidTests := true, laidLooks := .later }
def MachineTurnsUptoCardSaid : Prop := Claim7.holds Tryz.pinned (.plain (OpenSpec.upto machineTurnsSpec)) machineTurnsUptoCard

/-- THE SECOND FORM's CARD OF 'strongtxlaw21.MachinePicks'. -/
def machinePicksUptoCard : Claim7 := { stood := { row := machinePicksUptoRow, standIns := [], harness := (true, "826f5ae1f43cc8d94bdf51a30255946e672585476090e3208a297cef737f38af"), looks := false }, kinds := [], alts := [], laidByText := true, laidKinds := [.data], laidTests := true, laidLooks := .later }
def MachinePicksUptoCardSaid : Prop := Claim7.holds Tryz.pinned (.plain (OpenSpec.upto machinePicksSpec)) machinePicksUptoCard
end Rows
end Go.Proofs.YtggpohgoebicjaaGreatDoor
