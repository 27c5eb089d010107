/-
  No cell of these rows narrows 'for every input' (looked for: loops, veiled, ifaces, maps, wideKeys, modest, calm, conditions, laid).
  DERIVED. THE GIVEN ROWS OF THIS SEAT. 8 by the template 'for every input the law returns true; each argument reads behind the call as it read before'; 0 by the template 'total and deterministic' (their statements: YtlapmbkfmbkdoaaTotals.lean).
  GIVEN WITH THE SEED: the statements are not yours to turn. If you find one false, say at which input.
  Laid BY PROGRAM, IN A SANDBOX (cutbox-rows.mjs): the forced cells as the released guide's own fill.sh prints them over the translation 52e36796c3757315… (all of the seat's roots in one cut). By AI agents, Wed Nov 11 2026. No macro, syntax, notation, axiom, sorry.
-/
import Derived.Test.YtlapmbkfmbkdoaaChecked
import GoSem.Claim
import GoSem.ClaimJoined
import GoSem.ClaimMapViews
import Derived.JoinedTies
import Derived.KernelRfl
namespace Go.Proofs.Ytlapmbkfmbkdoaa
/- THE CELL 'sum', in the pinned program and in every row, IS THE sha256 OF THE DUMP (.gsa) THAT YtlapmbkfmbkdoaaProg.lean LOADS. Nothing in Lean hashes anything: it is a label: what it is worth is what the hold of that sum in a sandbox is worth. -/
noncomputable def Try.pinned : Pinned := { name := "ytlapmbkfmbkdoaa", sum := "52e36796c3757315389c76e82985f29928113bcf86ee259c829f08c3758bd29f", checked := Try.checked }
namespace Rows
def none {H : Type} : Left H := { results := [], args := [] }

/-- 'causewaylaw10.MachineNames': WHATEVER THE INPUT: true; the input reads as it did. -/
def machineNamesSpec : ChangeSpec := { name := "machineNames", fn := fun _ => fun
  | [] => { results := [.lit (.bool true)], args := [] }
  | _ => none }
def machineNamesRow : OpenClaim := { program := "ytlapmbkfmbkdoaa", sum := "52e36796c3757315389c76e82985f29928113bcf86ee259c829f08c3758bd29f", func := "causeway/causewaylaw10.MachineNames", spec := "machineNames", inPlace := ["math/bits.Add64", "math/bits.Sub64"], unfollowed := true, recurses := true, apart := false }
def MachineNamesSaid : Prop := machineNamesRow.holds Try.pinned (OpenSpec.ofChange machineNamesSpec)

/-- ITS FALSE NEIGHBOUR: 'it returns false'. Refute it at one input. -/
def machineNamesWrong : ChangeSpec := { name := "machineNames", fn := fun _ => fun
  | [] => { results := [.lit (.bool false)], args := [] }
  | _ => none }
def MachineNamesWrongFalsely : Prop := machineNamesRow.holds Try.pinned (OpenSpec.ofChange machineNamesWrong)

/-- 'causewaylaw10.MachineChecks': WHATEVER THE INPUT: true; the input reads as it did. -/
def machineChecksSpec : ChangeSpec := { name := "machineChecks", fn := fun _ => fun
  | [d] => { results := [.lit (.bool true)], args := [d] }
  | _ => none }
def machineChecksRow : OpenClaim := { program := "ytlapmbkfmbkdoaa", sum := "52e36796c3757315389c76e82985f29928113bcf86ee259c829f08c3758bd29f", func := "causeway/causewaylaw10.MachineChecks", spec := "machineChecks", inPlace := ["math/bits.Add64", "math/bits.Sub64"], unfollowed := true, recurses := true, apart := false }
def MachineChecksSaid : Prop := machineChecksRow.holds Try.pinned (OpenSpec.ofChange machineChecksSpec)

/-- ITS FALSE NEIGHBOUR: 'it returns false'. Refute it at one input. -/
def machineChecksWrong : ChangeSpec := { name := "machineChecks", fn := fun _ => fun
  | [d] => { results := [.lit (.bool false)], args := [d] }
  | _ => none }
def MachineChecksWrongFalsely : Prop := machineChecksRow.holds Try.pinned (OpenSpec.ofChange machineChecksWrong)

/-- 'causewaylaw10.MachineRuns': WHATEVER THE INPUT: true; the input reads as it did. -/
def machineRunsSpec : ChangeSpec := { name := "machineRuns", fn := fun _ => fun
  | [d] => { results := [.lit (.bool true)], args := [d] }
  | _ => none }
def machineRunsRow : OpenClaim := { program := "ytlapmbkfmbkdoaa", sum := "52e36796c3757315389c76e82985f29928113bcf86ee259c829f08c3758bd29f", func := "causeway/causewaylaw10.MachineRuns", spec := "machineRuns", inPlace := ["math/bits.Add64", "math/bits.Sub64"], unfollowed := true, recurses := true, apart := false }
def MachineRunsSaid : Prop := machineRunsRow.holds Try.pinned (OpenSpec.ofChange machineRunsSpec)

/-- ITS FALSE NEIGHBOUR: 'it returns false'. Refute it at one input. -/
def machineRunsWrong : ChangeSpec := { name := "machineRuns", fn := fun _ => fun
  | [d] => { results := [.lit (.bool false)], args := [d] }
  | _ => none }
def MachineRunsWrongFalsely : Prop := machineRunsRow.holds Try.pinned (OpenSpec.ofChange machineRunsWrong)

/-- 'causewaylaw10.MachineMeters': WHATEVER THE INPUT: true; the input reads as it did. -/
def machineMetersSpec : ChangeSpec := { name := "machineMeters", fn := fun _ => fun
  | [d1, d2] => { results := [.lit (.bool true)], args := [d1, d2] }
  | _ => none }
def machineMetersRow : OpenClaim := { program := "ytlapmbkfmbkdoaa", sum := "52e36796c3757315389c76e82985f29928113bcf86ee259c829f08c3758bd29f", func := "causeway/causewaylaw10.MachineMeters", spec := "machineMeters", inPlace := ["math/bits.Add64", "math/bits.Sub64"], unfollowed := true, recurses := true, apart := false }
def MachineMetersSaid : Prop := machineMetersRow.holds Try.pinned (OpenSpec.ofChange machineMetersSpec)

/-- ITS FALSE NEIGHBOUR: 'it returns false'. Refute it at one input. -/
def machineMetersWrong : ChangeSpec := { name := "machineMeters", fn := fun _ => fun
  | [d1, d2] => { results := [.lit (.bool false)], args := [d1, d2] }
  | _ => none }
def MachineMetersWrongFalsely : Prop := machineMetersRow.holds Try.pinned (OpenSpec.ofChange machineMetersWrong)

/-- 'causewaylaw10.MachineHosts': WHATEVER THE INPUT: true; the input reads as it did. -/
def machineHostsSpec : ChangeSpec := { name := "machineHosts", fn := fun _ => fun
  | [d1, d2, d3] => { results := [.lit (.bool true)], args := [d1, d2, d3] }
  | _ => none }
def machineHostsRow : OpenClaim := { program := "ytlapmbkfmbkdoaa", sum := "52e36796c3757315389c76e82985f29928113bcf86ee259c829f08c3758bd29f", func := "causeway/causewaylaw10.MachineHosts", spec := "machineHosts", inPlace := ["math/bits.Add64", "math/bits.Sub64"], unfollowed := true, recurses := true, apart := false }
def MachineHostsSaid : Prop := machineHostsRow.holds Try.pinned (OpenSpec.ofChange machineHostsSpec)

/-- ITS FALSE NEIGHBOUR: 'it returns false'. Refute it at one input. -/
def machineHostsWrong : ChangeSpec := { name := "machineHosts", fn := fun _ => fun
  | [d1, d2, d3] => { results := [.lit (.bool false)], args := [d1, d2, d3] }
  | _ => none }
def MachineHostsWrongFalsely : Prop := machineHostsRow.holds Try.pinned (OpenSpec.ofChange machineHostsWrong)

/-- 'causewaylaw10.MachineNested': WHATEVER THE INPUT: true; the input reads as it did. -/
def machineNestedSpec : ChangeSpec := { name := "machineNested", fn := fun _ => fun
  | [d1, d2] => { results := [.lit (.bool true)], args := [d1, d2] }
  | _ => none }
def machineNestedRow : OpenClaim := { program := "ytlapmbkfmbkdoaa", sum := "52e36796c3757315389c76e82985f29928113bcf86ee259c829f08c3758bd29f", func := "causeway/causewaylaw10.MachineNested", spec := "machineNested", inPlace := ["math/bits.Add64", "math/bits.Sub64"], unfollowed := true, recurses := true, apart := false }
def MachineNestedSaid : Prop := machineNestedRow.holds Try.pinned (OpenSpec.ofChange machineNestedSpec)

/-- ITS FALSE NEIGHBOUR: 'it returns false'. Refute it at one input. -/
def machineNestedWrong : ChangeSpec := { name := "machineNested", fn := fun _ => fun
  | [d1, d2] => { results := [.lit (.bool false)], args := [d1, d2] }
  | _ => none }
def MachineNestedWrongFalsely : Prop := machineNestedRow.holds Try.pinned (OpenSpec.ofChange machineNestedWrong)

/-- 'causewaylaw10.MachineRefuses': WHATEVER THE INPUT: true; the input reads as it did. -/
def machineRefusesSpec : ChangeSpec := { name := "machineRefuses", fn := fun _ => fun
  | [d] => { results := [.lit (.bool true)], args := [d] }
  | _ => none }
def machineRefusesRow : OpenClaim := { program := "ytlapmbkfmbkdoaa", sum := "52e36796c3757315389c76e82985f29928113bcf86ee259c829f08c3758bd29f", func := "causeway/causewaylaw10.MachineRefuses", spec := "machineRefuses", inPlace := ["math/bits.Add64", "math/bits.Sub64"], unfollowed := true, recurses := true, apart := false }
def MachineRefusesSaid : Prop := machineRefusesRow.holds Try.pinned (OpenSpec.ofChange machineRefusesSpec)

/-- ITS FALSE NEIGHBOUR: 'it returns false'. Refute it at one input. -/
def machineRefusesWrong : ChangeSpec := { name := "machineRefuses", fn := fun _ => fun
  | [d] => { results := [.lit (.bool false)], args := [d] }
  | _ => none }
def MachineRefusesWrongFalsely : Prop := machineRefusesRow.holds Try.pinned (OpenSpec.ofChange machineRefusesWrong)

/-- 'causewaylaw10.MachineDifference': WHATEVER THE INPUT: true; the input reads as it did. -/
def machineDifferenceSpec : ChangeSpec := { name := "machineDifference", fn := fun _ => fun
  | [d1, d2] => { results := [.lit (.bool true)], args := [d1, d2] }
  | _ => none }
def machineDifferenceRow : OpenClaim := { program := "ytlapmbkfmbkdoaa", sum := "52e36796c3757315389c76e82985f29928113bcf86ee259c829f08c3758bd29f", func := "causeway/causewaylaw10.MachineDifference", spec := "machineDifference", inPlace := ["math/bits.Add64", "math/bits.Sub64"], unfollowed := true, recurses := true, apart := false }
def MachineDifferenceSaid : Prop := machineDifferenceRow.holds Try.pinned (OpenSpec.ofChange machineDifferenceSpec)

/-- ITS FALSE NEIGHBOUR: 'it returns false'. Refute it at one input. -/
def machineDifferenceWrong : ChangeSpec := { name := "machineDifference", fn := fun _ => fun
  | [d1, d2] => { results := [.lit (.bool false)], args := [d1, d2] }
  | _ => none }
def MachineDifferenceWrongFalsely : Prop := machineDifferenceRow.holds Try.pinned (OpenSpec.ofChange machineDifferenceWrong)

/- THE SECOND FORM. 'bulk': how many values and letters a reading holds, each counted each time it is reached (what is shared counts as often as it is met; a slice's spare places count too). A statement '..UptoSaid' is the law's where the arguments, and the package variables that the reading takes, are together of bulk at most 1048576: NARROWER than '..Said'. Prove '..Said' where nothing that the law and all that it calls make is longer than what came in: it says more and counts as full. Else prove '..UptoSaid'. A law counts once. -/
mutual
def uptoBulk {H : Type} : DataW H → Nat
  | .lit (.string bytes) => bytes.length + 1
  | .lit _ => 1
  | .nil => 1
  | .ptr d => uptoBulk d + 1
  | .slice elems spare => uptoBulkAll elems + uptoBulkAll spare + 1
  | .agg parts => uptoBulkAll parts + 1
  | .iface _ d => uptoBulk d + 1
  | .map entries => uptoBulkEntries entries + 1
  | .held _ => 1
def uptoBulkAll {H : Type} : List (DataW H) → Nat
  | [] => 0
  | d :: r => uptoBulk d + uptoBulkAll r
def uptoBulkEntries {H : Type} : List (Lit × DataW H) → Nat
  | [] => 0
  | x :: r => uptoBulkEntry x + uptoBulkEntries r
def uptoBulkEntry {H : Type} : Lit × DataW H → Nat
  | (.string bytes, d) => bytes.length + uptoBulk d + 1
  | (_, d) => uptoBulk d + 1
 end
def uptoSmall : (H : Type) → List (DataW H) → Bool := fun _ ds => decide (uptoBulkAll ds ≤ 1048576)
def OpenSpec.upto (s : _root_.Go.ChangeSpec) : _root_.Go.OpenSpec := { _root_.Go.OpenSpec.ofChange s with cond := some uptoSmall }

/-- 'causewaylaw10.MachineNames', WHERE WHAT IT READS IS OF BULK AT MOST 1048576: true; the input reads as it did. -/
def machineNamesUptoRow : OpenClaim := { program := "ytlapmbkfmbkdoaa", sum := "52e36796c3757315389c76e82985f29928113bcf86ee259c829f08c3758bd29f", func := "causeway/causewaylaw10.MachineNames", spec := "machineNames", inPlace := ["math/bits.Add64", "math/bits.Sub64"], unfollowed := true, recurses := true, apart := false, narrowed := true }
def MachineNamesUptoSaid : Prop := machineNamesUptoRow.holds Try.pinned (OpenSpec.upto machineNamesSpec)

/-- 'causewaylaw10.MachineChecks', WHERE WHAT IT READS IS OF BULK AT MOST 1048576: true; the input reads as it did. -/
def machineChecksUptoRow : OpenClaim := { program := "ytlapmbkfmbkdoaa", sum := "52e36796c3757315389c76e82985f29928113bcf86ee259c829f08c3758bd29f", func := "causeway/causewaylaw10.MachineChecks", spec := "machineChecks", inPlace := ["math/bits.Add64", "math/bits.Sub64"], unfollowed := true, recurses := true, apart := false, narrowed := true }
def MachineChecksUptoSaid : Prop := machineChecksUptoRow.holds Try.pinned (OpenSpec.upto machineChecksSpec)

/-- 'causewaylaw10.MachineRuns', WHERE WHAT IT READS IS OF BULK AT MOST 1048576: true; the input reads as it did. -/
def machineRunsUptoRow : OpenClaim := { program := "ytlapmbkfmbkdoaa", sum := "52e36796c3757315389c76e82985f29928113bcf86ee259c829f08c3758bd29f", func := "causeway/causewaylaw10.MachineRuns", spec := "machineRuns", inPlace := ["math/bits.Add64", "math/bits.Sub64"], unfollowed := true, recurses := true, apart := false, narrowed := true }
def MachineRunsUptoSaid : Prop := machineRunsUptoRow.holds Try.pinned (OpenSpec.upto machineRunsSpec)

/-- 'causewaylaw10.MachineMeters', WHERE WHAT IT READS IS OF BULK AT MOST 1048576: true; the input reads as it did. -/
def machineMetersUptoRow : OpenClaim := { program := "ytlapmbkfmbkdoaa", sum := "52e36796c3757315389c76e82985f29928113bcf86ee259c829f08c3758bd29f", func := "causeway/causewaylaw10.MachineMeters", spec := "machineMeters", inPlace := ["math/bits.Add64", "math/bits.Sub64"], unfollowed := true, recurses := true, apart := false, narrowed := true }
def MachineMetersUptoSaid : Prop := machineMetersUptoRow.holds Try.pinned (OpenSpec.upto machineMetersSpec)

/-- 'causewaylaw10.MachineHosts', WHERE WHAT IT READS IS OF BULK AT MOST 1048576: true; the input reads as it did. -/
def machineHostsUptoRow : OpenClaim := { program := "ytlapmbkfmbkdoaa", sum := "52e36796c3757315389c76e82985f29928113bcf86ee259c829f08c3758bd29f", func := "causeway/causewaylaw10.MachineHosts", spec := "machineHosts", inPlace := ["math/bits.Add64", "math/bits.Sub64"], unfollowed := true, recurses := true, apart := false, narrowed := true }
def MachineHostsUptoSaid : Prop := machineHostsUptoRow.holds Try.pinned (OpenSpec.upto machineHostsSpec)

/-- 'causewaylaw10.MachineNested', WHERE WHAT IT READS IS OF BULK AT MOST 1048576: true; the input reads as it did. -/
def machineNestedUptoRow : OpenClaim := { program := "ytlapmbkfmbkdoaa", sum := "52e36796c3757315389c76e82985f29928113bcf86ee259c829f08c3758bd29f", func := "causeway/causewaylaw10.MachineNested", spec := "machineNested", inPlace := ["math/bits.Add64", "math/bits.Sub64"], unfollowed := true, recurses := true, apart := false, narrowed := true }
def MachineNestedUptoSaid : Prop := machineNestedUptoRow.holds Try.pinned (OpenSpec.upto machineNestedSpec)

/-- 'causewaylaw10.MachineRefuses', WHERE WHAT IT READS IS OF BULK AT MOST 1048576: true; the input reads as it did. -/
def machineRefusesUptoRow : OpenClaim := { program := "ytlapmbkfmbkdoaa", sum := "52e36796c3757315389c76e82985f29928113bcf86ee259c829f08c3758bd29f", func := "causeway/causewaylaw10.MachineRefuses", spec := "machineRefuses", inPlace := ["math/bits.Add64", "math/bits.Sub64"], unfollowed := true, recurses := true, apart := false, narrowed := true }
def MachineRefusesUptoSaid : Prop := machineRefusesUptoRow.holds Try.pinned (OpenSpec.upto machineRefusesSpec)

/-- 'causewaylaw10.MachineDifference', WHERE WHAT IT READS IS OF BULK AT MOST 1048576: true; the input reads as it did. -/
def machineDifferenceUptoRow : OpenClaim := { program := "ytlapmbkfmbkdoaa", sum := "52e36796c3757315389c76e82985f29928113bcf86ee259c829f08c3758bd29f", func := "causeway/causewaylaw10.MachineDifference", spec := "machineDifference", inPlace := ["math/bits.Add64", "math/bits.Sub64"], unfollowed := true, recurses := true, apart := false, narrowed := true }
def MachineDifferenceUptoSaid : Prop := machineDifferenceUptoRow.holds Try.pinned (OpenSpec.upto machineDifferenceSpec)

end Rows
end Go.Proofs.Ytlapmbkfmbkdoaa
