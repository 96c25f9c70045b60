/-
  NARROWER THAN 'FOR EVERY INPUT', by the rows' own cells (each row's printed sentence says how): ThreadFaults: laid · MachineRuns: laid · MachinePrefix: laid · MachineCells: laid · MachineTurns: laid · MachinePicks: laid.
  DERIVED. THE GIVEN ROWS OF THIS SEAT. 6 by the template 'for every input the law returns true; each argument reads behind the call as it read before'; 0 by the template 'total and deterministic' (their statements: YtggpohgoebicjaaGreatDoorTotals.lean).
  GIVEN WITH THE SEED: the statements are not yours to turn. If you find one false, say at which input.
  Laid BY PROGRAM, IN A SANDBOX (cutbox-rows.mjs): the forced cells as the released guide's own fill.sh prints them over the translation 9e8cfb662acac85d… (all of the seat's roots in one cut). By AI agents, Wed Nov 11 2026. No macro, syntax, notation, axiom, sorry.
-/
import Derived.Test.YtggpohgoebicjaaGreatDoorChecked
import GoSem.Claim
import GoSem.ClaimJoined
import GoSem.ClaimMapViews
import Derived.JoinedTies
import Derived.KernelRfl
namespace Go.Proofs.YtggpohgoebicjaaGreatDoor
/- THE CELL 'sum', in the pinned program and in every row, IS THE sha256 OF THE DUMP (.gsa) THAT YtggpohgoebicjaaGreatDoorProg.lean LOADS. Nothing in Lean hashes anything: it is a label: what it is worth is what the hold of that sum in a sandbox is worth. -/
noncomputable def Tryz.pinned : Pinned := { name := "ytggpohgoebicjaagreatdoor", sum := "9e8cfb662acac85d635f362030850596b9c5fbc08267893ce0f1de8b249ddfc1", checked := Tryz.checked }
namespace Rows
def none {H : Type} : Left H := { results := [], args := [] }

/- WHAT THE LISTED PACKAGE-LEVEL VARIABLES READ AS WHEN THE CALL BEGINS. Each datum BY PROGRAM (the guide's laid-datum.mjs) off the statement by which the dump's own 'gosem.cut.vars' lays the variable. In a bare row this is a premise. The card (YtggpohgoebicjaaGreatDoorCards.lean) ties it to the program's text. -/
def laid_strongtx_isa_forms {H : Type} : DataW H := .agg [.agg [.lit (.string [110, 111, 112]), .lit (.string [])], .agg [.lit (.string [99, 111, 110, 115, 116]), .lit (.string [65, 73])], .agg [.lit (.string [109, 111, 118, 101]), .lit (.string [65, 66])], .agg [.lit (.string []), .lit (.string [65, 66, 67])], .agg [.lit (.string [106, 117, 109, 112]), .lit (.string [73])], .agg [.lit (.string [122, 101, 114, 111]), .lit (.string [65, 73])], .agg [.lit (.string [110, 111, 110, 122, 101, 114, 111]), .lit (.string [65, 73])], .agg [.lit (.string [98, 101, 103, 105, 110]), .lit (.string [73])], .agg [.lit (.string [99, 111, 109, 109, 105, 116]), .lit (.string [])], .agg [.lit (.string [97, 98, 111, 114, 116]), .lit (.string [])], .agg [.lit (.string [116, 114, 101, 97, 100]), .lit (.string [65, 66, 73])], .agg [.lit (.string [116, 119, 114, 105, 116, 101]), .lit (.string [65, 66, 73])], .agg [.lit (.string [112, 114, 101, 97, 100]), .lit (.string [65, 66, 73])], .agg [.lit (.string [112, 119, 114, 105, 116, 101]), .lit (.string [65, 66, 73])], .agg [.lit (.string [97, 108, 108, 111, 99]), .lit (.string [65, 73])], .agg [.lit (.string [102, 114, 101, 101]), .lit (.string [65])], .agg [.lit (.string [102, 101, 110, 99, 101]), .lit (.string [])], .agg [.lit (.string [111, 117, 116, 99, 111, 109, 101]), .lit (.string [65])]]

/-- 'strongtxlaw20.ThreadFaults': WHATEVER THE INPUT: true; the input reads as it did. -/
def threadFaultsSpec : ChangeSpec := { name := "threadFaults", fn := fun _ => fun
  | [d1, d2, d3, d4] => { results := [.lit (.bool true)], args := [d1, d2, d3, d4] }
  | _ => none }
def threadFaultsRow : OpenClaim := { program := "ytggpohgoebicjaagreatdoor", sum := "9e8cfb662acac85d635f362030850596b9c5fbc08267893ce0f1de8b249ddfc1", func := "strongtx/strongtxlaw20.ThreadFaults", spec := "threadFaults", inPlace := ["internal/bytealg.IndexByteString", "internal/bytealg.IndexString", "math.Float64bits", "math.Float64frombits", "math.archMin", "math.archMax"], unfollowed := true, recurses := true, named := ["strongtx/isa.forms", "internal/bytealg.MaxLen"], apart := false, laid := [("strongtx/isa.forms", laid_strongtx_isa_forms)] }
def ThreadFaultsSaid : Prop := threadFaultsRow.holds Tryz.pinned (OpenSpec.ofChange threadFaultsSpec)

/-- ITS FALSE NEIGHBOUR: 'it returns false'. Refute it at one input. -/
def threadFaultsWrong : ChangeSpec := { name := "threadFaults", fn := fun _ => fun
  | [d1, d2, d3, d4] => { results := [.lit (.bool false)], args := [d1, d2, d3, d4] }
  | _ => none }
def ThreadFaultsWrongFalsely : Prop := threadFaultsRow.holds Tryz.pinned (OpenSpec.ofChange threadFaultsWrong)

/-- 'strongtxlaw21.MachineRuns': WHATEVER THE INPUT: true; the input reads as it did. -/
def machineRunsSpec : ChangeSpec := { name := "machineRuns", fn := fun _ => fun
  | [d1, d2, d3, d4] => { results := [.lit (.bool true)], args := [d1, d2, d3, d4] }
  | _ => none }
def machineRunsRow : OpenClaim := { program := "ytggpohgoebicjaagreatdoor", sum := "9e8cfb662acac85d635f362030850596b9c5fbc08267893ce0f1de8b249ddfc1", func := "strongtx/strongtxlaw21.MachineRuns", spec := "machineRuns", inPlace := ["internal/bytealg.IndexByteString", "internal/bytealg.IndexString", "math.Float64bits", "math.Float64frombits", "math.archMin", "math.archMax"], unfollowed := true, recurses := true, named := ["strongtx/isa.forms", "internal/bytealg.MaxLen"], apart := false, laid := [("strongtx/isa.forms", laid_strongtx_isa_forms)] }
def MachineRunsSaid : Prop := machineRunsRow.holds Tryz.pinned (OpenSpec.ofChange machineRunsSpec)

/-- ITS FALSE NEIGHBOUR: 'it returns false'. Refute it at one input. -/
def machineRunsWrong : ChangeSpec := { name := "machineRuns", fn := fun _ => fun
  | [d1, d2, d3, d4] => { results := [.lit (.bool false)], args := [d1, d2, d3, d4] }
  | _ => none }
def MachineRunsWrongFalsely : Prop := machineRunsRow.holds Tryz.pinned (OpenSpec.ofChange machineRunsWrong)

/-- 'strongtxlaw21.MachinePrefix': WHATEVER THE INPUT: true; the input reads as it did. -/
def machinePrefixSpec : ChangeSpec := { name := "machinePrefix", fn := fun _ => fun
  | [d1, d2, d3, d4, d5] => { results := [.lit (.bool true)], args := [d1, d2, d3, d4, d5] }
  | _ => none }
def machinePrefixRow : OpenClaim := { program := "ytggpohgoebicjaagreatdoor", sum := "9e8cfb662acac85d635f362030850596b9c5fbc08267893ce0f1de8b249ddfc1", func := "strongtx/strongtxlaw21.MachinePrefix", spec := "machinePrefix", inPlace := ["internal/bytealg.IndexByteString", "internal/bytealg.IndexString", "math.Float64bits", "math.Float64frombits", "math.archMin", "math.archMax"], unfollowed := true, recurses := true, named := ["strongtx/isa.forms", "internal/bytealg.MaxLen"], apart := false, laid := [("strongtx/isa.forms", laid_strongtx_isa_forms)] }
def MachinePrefixSaid : Prop := machinePrefixRow.holds Tryz.pinned (OpenSpec.ofChange machinePrefixSpec)

/-- ITS FALSE NEIGHBOUR: 'it returns false'. Refute it at one input. -/
def machinePrefixWrong : ChangeSpec := { name := "machinePrefix", fn := fun _ => fun
  | [d1, d2, d3, d4, d5] => { results := [.lit (.bool false)], args := [d1, d2, d3, d4, d5] }
  | _ => none }
def MachinePrefixWrongFalsely : Prop := machinePrefixRow.holds Tryz.pinned (OpenSpec.ofChange machinePrefixWrong)

/-- 'strongtxlaw21.MachineCells': WHATEVER THE INPUT: true; the input reads as it did. -/
def machineCellsSpec : ChangeSpec := { name := "machineCells", fn := fun _ => fun
  | [d1, d2, d3, d4] => { results := [.lit (.bool true)], args := [d1, d2, d3, d4] }
  | _ => none }
def machineCellsRow : OpenClaim := { program := "ytggpohgoebicjaagreatdoor", sum := "9e8cfb662acac85d635f362030850596b9c5fbc08267893ce0f1de8b249ddfc1", func := "strongtx/strongtxlaw21.MachineCells", spec := "machineCells", inPlace := ["internal/bytealg.IndexByteString", "internal/bytealg.IndexString", "math.Float64bits", "math.Float64frombits", "math.archMin", "math.archMax"], unfollowed := true, recurses := true, named := ["strongtx/isa.forms", "internal/bytealg.MaxLen"], apart := false, laid := [("strongtx/isa.forms", laid_strongtx_isa_forms)] }
def MachineCellsSaid : Prop := machineCellsRow.holds Tryz.pinned (OpenSpec.ofChange machineCellsSpec)

/-- ITS FALSE NEIGHBOUR: 'it returns false'. Refute it at one input. -/
def machineCellsWrong : ChangeSpec := { name := "machineCells", fn := fun _ => fun
  | [d1, d2, d3, d4] => { results := [.lit (.bool false)], args := [d1, d2, d3, d4] }
  | _ => none }
def MachineCellsWrongFalsely : Prop := machineCellsRow.holds Tryz.pinned (OpenSpec.ofChange machineCellsWrong)

/-- 'strongtxlaw21.MachineTurns': WHATEVER THE INPUT: true; the input reads as it did. -/
def machineTurnsSpec : ChangeSpec := { name := "machineTurns", fn := fun _ => fun
  | [d1, d2, d3, d4] => { results := [.lit (.bool true)], args := [d1, d2, d3, d4] }
  | _ => none }
def machineTurnsRow : OpenClaim := { program := "ytggpohgoebicjaagreatdoor", sum := "9e8cfb662acac85d635f362030850596b9c5fbc08267893ce0f1de8b249ddfc1", func := "strongtx/strongtxlaw21.MachineTurns", spec := "machineTurns", inPlace := ["internal/bytealg.IndexByteString", "internal/bytealg.IndexString", "math.Float64bits", "math.Float64frombits", "math.archMin", "math.archMax"], unfollowed := true, recurses := true, named := ["strongtx/isa.forms", "internal/bytealg.MaxLen"], apart := false, laid := [("strongtx/isa.forms", laid_strongtx_isa_forms)] }
def MachineTurnsSaid : Prop := machineTurnsRow.holds Tryz.pinned (OpenSpec.ofChange machineTurnsSpec)

/-- ITS FALSE NEIGHBOUR: 'it returns false'. Refute it at one input. -/
def machineTurnsWrong : ChangeSpec := { name := "machineTurns", fn := fun _ => fun
  | [d1, d2, d3, d4] => { results := [.lit (.bool false)], args := [d1, d2, d3, d4] }
  | _ => none }
def MachineTurnsWrongFalsely : Prop := machineTurnsRow.holds Tryz.pinned (OpenSpec.ofChange machineTurnsWrong)

/-- 'strongtxlaw21.MachinePicks': WHATEVER THE INPUT: true; the input reads as it did. -/
def machinePicksSpec : ChangeSpec := { name := "machinePicks", fn := fun _ => fun
  | [d1, d2, d3, d4, d5] => { results := [.lit (.bool true)], args := [d1, d2, d3, d4, d5] }
  | _ => none }
def machinePicksRow : OpenClaim := { program := "ytggpohgoebicjaagreatdoor", sum := "9e8cfb662acac85d635f362030850596b9c5fbc08267893ce0f1de8b249ddfc1", func := "strongtx/strongtxlaw21.MachinePicks", spec := "machinePicks", inPlace := ["internal/bytealg.IndexByteString", "internal/bytealg.IndexString", "math.Float64bits", "math.Float64frombits", "math.archMin", "math.archMax"], unfollowed := true, recurses := true, named := ["strongtx/isa.forms", "internal/bytealg.MaxLen"], apart := false, laid := [("strongtx/isa.forms", laid_strongtx_isa_forms)] }
def MachinePicksSaid : Prop := machinePicksRow.holds Tryz.pinned (OpenSpec.ofChange machinePicksSpec)

/-- ITS FALSE NEIGHBOUR: 'it returns false'. Refute it at one input. -/
def machinePicksWrong : ChangeSpec := { name := "machinePicks", fn := fun _ => fun
  | [d1, d2, d3, d4, d5] => { results := [.lit (.bool false)], args := [d1, d2, d3, d4, d5] }
  | _ => none }
def MachinePicksWrongFalsely : Prop := machinePicksRow.holds Tryz.pinned (OpenSpec.ofChange machinePicksWrong)

/- THE SECOND FORM. 'bulk': how many values and letters a reading holds, each counted each time it is reached (what is shared counts as often as it is met; a slice's spare places count too). A statement '..UptoSaid' is the law's where the arguments, and the package variables that the reading takes, are together of bulk at most 1048576: NARROWER than '..Said'. Prove '..Said' where nothing that the law and all that it calls make is longer than what came in: it says more and counts as full. Else prove '..UptoSaid'. A law counts once. -/
mutual
def uptoBulk {H : Type} : DataW H → Nat
  | .lit (.string bytes) => bytes.length + 1
  | .lit _ => 1
  | .nil => 1
  | .ptr d => uptoBulk d + 1
  | .slice elems spare => uptoBulkAll elems + uptoBulkAll spare + 1
  | .agg parts => uptoBulkAll parts + 1
  | .iface _ d => uptoBulk d + 1
  | .map entries => uptoBulkEntries entries + 1
  | .held _ => 1
def uptoBulkAll {H : Type} : List (DataW H) → Nat
  | [] => 0
  | d :: r => uptoBulk d + uptoBulkAll r
def uptoBulkEntries {H : Type} : List (Lit × DataW H) → Nat
  | [] => 0
  | x :: r => uptoBulkEntry x + uptoBulkEntries r
def uptoBulkEntry {H : Type} : Lit × DataW H → Nat
  | (.string bytes, d) => bytes.length + uptoBulk d + 1
  | (_, d) => uptoBulk d + 1
 end
def uptoSmall : (H : Type) → List (DataW H) → Bool := fun _ ds => decide (uptoBulkAll ds ≤ 1048576)
def OpenSpec.upto (s : _root_.Go.ChangeSpec) : _root_.Go.OpenSpec := { _root_.Go.OpenSpec.ofChange s with cond := some uptoSmall }

/-- 'strongtxlaw20.ThreadFaults', WHERE WHAT IT READS IS OF BULK AT MOST 1048576: true; the input reads as it did. -/
def threadFaultsUptoRow : OpenClaim := { program := "ytggpohgoebicjaagreatdoor", sum := "9e8cfb662acac85d635f362030850596b9c5fbc08267893ce0f1de8b249ddfc1", func := "strongtx/strongtxlaw20.ThreadFaults", spec := "threadFaults", inPlace := ["internal/bytealg.IndexByteString", "internal/bytealg.IndexString", "math.Float64bits", "math.Float64frombits", "math.archMin", "math.archMax"], unfollowed := true, recurses := true, named := ["strongtx/isa.forms", "internal/bytealg.MaxLen"], apart := false, laid := [("strongtx/isa.forms", laid_strongtx_isa_forms)], narrowed := true }
def ThreadFaultsUptoSaid : Prop := threadFaultsUptoRow.holds Tryz.pinned (OpenSpec.upto threadFaultsSpec)

/-- 'strongtxlaw21.MachineRuns', WHERE WHAT IT READS IS OF BULK AT MOST 1048576: true; the input reads as it did. -/
def machineRunsUptoRow : OpenClaim := { program := "ytggpohgoebicjaagreatdoor", sum := "9e8cfb662acac85d635f362030850596b9c5fbc08267893ce0f1de8b249ddfc1", func := "strongtx/strongtxlaw21.MachineRuns", spec := "machineRuns", inPlace := ["internal/bytealg.IndexByteString", "internal/bytealg.IndexString", "math.Float64bits", "math.Float64frombits", "math.archMin", "math.archMax"], unfollowed := true, recurses := true, named := ["strongtx/isa.forms", "internal/bytealg.MaxLen"], apart := false, laid := [("strongtx/isa.forms", laid_strongtx_isa_forms)], narrowed := true }
def MachineRunsUptoSaid : Prop := machineRunsUptoRow.holds Tryz.pinned (OpenSpec.upto machineRunsSpec)

/-- 'strongtxlaw21.MachinePrefix', WHERE WHAT IT READS IS OF BULK AT MOST 1048576: true; the input reads as it did. -/
def machinePrefixUptoRow : OpenClaim := { program := "ytggpohgoebicjaagreatdoor", sum := "9e8cfb662acac85d635f362030850596b9c5fbc08267893ce0f1de8b249ddfc1", func := "strongtx/strongtxlaw21.MachinePrefix", spec := "machinePrefix", inPlace := ["internal/bytealg.IndexByteString", "internal/bytealg.IndexString", "math.Float64bits", "math.Float64frombits", "math.archMin", "math.archMax"], unfollowed := true, recurses := true, named := ["strongtx/isa.forms", "internal/bytealg.MaxLen"], apart := false, laid := [("strongtx/isa.forms", laid_strongtx_isa_forms)], narrowed := true }
def MachinePrefixUptoSaid : Prop := machinePrefixUptoRow.holds Tryz.pinned (OpenSpec.upto machinePrefixSpec)

/-- 'strongtxlaw21.MachineCells', WHERE WHAT IT READS IS OF BULK AT MOST 1048576: true; the input reads as it did. -/
def machineCellsUptoRow : OpenClaim := { program := "ytggpohgoebicjaagreatdoor", sum := "9e8cfb662acac85d635f362030850596b9c5fbc08267893ce0f1de8b249ddfc1", func := "strongtx/strongtxlaw21.MachineCells", spec := "machineCells", inPlace := ["internal/bytealg.IndexByteString", "internal/bytealg.IndexString", "math.Float64bits", "math.Float64frombits", "math.archMin", "math.archMax"], unfollowed := true, recurses := true, named := ["strongtx/isa.forms", "internal/bytealg.MaxLen"], apart := false, laid := [("strongtx/isa.forms", laid_strongtx_isa_forms)], narrowed := true }
def MachineCellsUptoSaid : Prop := machineCellsUptoRow.holds Tryz.pinned (OpenSpec.upto machineCellsSpec)

/-- 'strongtxlaw21.MachineTurns', WHERE WHAT IT READS IS OF BULK AT MOST 1048576: true; the input reads as it did. -/
def machineTurnsUptoRow : OpenClaim := { program := "ytggpohgoebicjaagreatdoor", sum := "9e8cfb662acac85d635f362030850596b9c5fbc08267893ce0f1de8b249ddfc1", func := "strongtx/strongtxlaw21.MachineTurns", spec := "machineTurns", inPlace := ["internal/bytealg.IndexByteString", "internal/bytealg.IndexString", "math.Float64bits", "math.Float64frombits", "math.archMin", "math.archMax"], unfollowed := true, recurses := true, named := ["strongtx/isa.forms", "internal/bytealg.MaxLen"], apart := false, laid := [("strongtx/isa.forms", laid_strongtx_isa_forms)], narrowed := true }
def MachineTurnsUptoSaid : Prop := machineTurnsUptoRow.holds Tryz.pinned (OpenSpec.upto machineTurnsSpec)

/-- 'strongtxlaw21.MachinePicks', WHERE WHAT IT READS IS OF BULK AT MOST 1048576: true; the input reads as it did. -/
def machinePicksUptoRow : OpenClaim := { program := "ytggpohgoebicjaagreatdoor", sum := "9e8cfb662acac85d635f362030850596b9c5fbc08267893ce0f1de8b249ddfc1", func := "strongtx/strongtxlaw21.MachinePicks", spec := "machinePicks", inPlace := ["internal/bytealg.IndexByteString", "internal/bytealg.IndexString", "math.Float64bits", "math.Float64frombits", "math.archMin", "math.archMax"], unfollowed := true, recurses := true, named := ["strongtx/isa.forms", "internal/bytealg.MaxLen"], apart := false, laid := [("strongtx/isa.forms", laid_strongtx_isa_forms)], narrowed := true }
def MachinePicksUptoSaid : Prop := machinePicksUptoRow.holds Tryz.pinned (OpenSpec.upto machinePicksSpec)

end Rows
end Go.Proofs.YtggpohgoebicjaaGreatDoor
