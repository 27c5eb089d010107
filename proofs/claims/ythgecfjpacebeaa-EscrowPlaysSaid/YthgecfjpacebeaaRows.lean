/-
  No cell of these rows narrows 'for every input' (looked for: loops, veiled, ifaces, maps, wideKeys, modest, calm, conditions, laid).
  DERIVED. THE GIVEN ROWS OF THIS SEAT. 15 by the template 'for every input the law returns true; each argument reads behind the call as it read before'; 0 by the template 'total and deterministic' (their statements: YthgecfjpacebeaaTotals.lean).
  GIVEN WITH THE SEED: the statements are not yours to turn. If you find one false, say at which input.
  Laid BY PROGRAM, IN A SANDBOX (cutbox-rows.mjs): the forced cells as the released guide's own fill.sh prints them over the translation 9243a780d3f71a19… (all of the seat's roots in one cut). By AI agents, Wed Nov 11 2026. No macro, syntax, notation, axiom, sorry.
-/
import Derived.Test.YthgecfjpacebeaaChecked
import GoSem.Claim
import GoSem.ClaimJoined
import GoSem.ClaimMapViews
import Derived.JoinedTies
import Derived.KernelRfl
namespace Go.Proofs.Ythgecfjpacebeaa
/- THE CELL 'sum', in the pinned program and in every row, IS THE sha256 OF THE DUMP (.gsa) THAT YthgecfjpacebeaaProg.lean LOADS. Nothing in Lean hashes anything: it is a label: what it is worth is what the hold of that sum in a sandbox is worth. -/
noncomputable def Try.pinned : Pinned := { name := "ythgecfjpacebeaa", sum := "9243a780d3f71a19d891e513ba7917eac1a3adc9baa22c5ed79257d0810ef50a", checked := Try.checked }
namespace Rows
def none {H : Type} : Left H := { results := [], args := [] }

/-- 'causewaylaw14.EscrowHeld': WHATEVER THE INPUT: true; the input reads as it did. -/
def escrowHeldSpec : ChangeSpec := { name := "escrowHeld", fn := fun _ => fun
  | [d] => { results := [.lit (.bool true)], args := [d] }
  | _ => none }
def escrowHeldRow : OpenClaim := { program := "ythgecfjpacebeaa", sum := "9243a780d3f71a19d891e513ba7917eac1a3adc9baa22c5ed79257d0810ef50a", func := "causeway/causewaylaw14.EscrowHeld", spec := "escrowHeld", inPlace := ["math/bits.Add64", "math/bits.Sub64"], apart := false }
def EscrowHeldSaid : Prop := escrowHeldRow.holds Try.pinned (OpenSpec.ofChange escrowHeldSpec)

/-- ITS FALSE NEIGHBOUR: 'it returns false'. Refute it at one input. -/
def escrowHeldWrong : ChangeSpec := { name := "escrowHeld", fn := fun _ => fun
  | [d] => { results := [.lit (.bool false)], args := [d] }
  | _ => none }
def EscrowHeldWrongFalsely : Prop := escrowHeldRow.holds Try.pinned (OpenSpec.ofChange escrowHeldWrong)

/-- 'causewaylaw14.EscrowRefused': WHATEVER THE INPUT: true; the input reads as it did. -/
def escrowRefusedSpec : ChangeSpec := { name := "escrowRefused", fn := fun _ => fun
  | [d] => { results := [.lit (.bool true)], args := [d] }
  | _ => none }
def escrowRefusedRow : OpenClaim := { program := "ythgecfjpacebeaa", sum := "9243a780d3f71a19d891e513ba7917eac1a3adc9baa22c5ed79257d0810ef50a", func := "causeway/causewaylaw14.EscrowRefused", spec := "escrowRefused", inPlace := ["math/bits.Add64", "math/bits.Sub64"], apart := false }
def EscrowRefusedSaid : Prop := escrowRefusedRow.holds Try.pinned (OpenSpec.ofChange escrowRefusedSpec)

/-- ITS FALSE NEIGHBOUR: 'it returns false'. Refute it at one input. -/
def escrowRefusedWrong : ChangeSpec := { name := "escrowRefused", fn := fun _ => fun
  | [d] => { results := [.lit (.bool false)], args := [d] }
  | _ => none }
def EscrowRefusedWrongFalsely : Prop := escrowRefusedRow.holds Try.pinned (OpenSpec.ofChange escrowRefusedWrong)

/-- 'causewaylaw14.EscrowGives': WHATEVER THE INPUT: true; the input reads as it did. -/
def escrowGivesSpec : ChangeSpec := { name := "escrowGives", fn := fun _ => fun
  | [d] => { results := [.lit (.bool true)], args := [d] }
  | _ => none }
def escrowGivesRow : OpenClaim := { program := "ythgecfjpacebeaa", sum := "9243a780d3f71a19d891e513ba7917eac1a3adc9baa22c5ed79257d0810ef50a", func := "causeway/causewaylaw14.EscrowGives", spec := "escrowGives", inPlace := ["math/bits.Add64", "math/bits.Sub64"], apart := false }
def EscrowGivesSaid : Prop := escrowGivesRow.holds Try.pinned (OpenSpec.ofChange escrowGivesSpec)

/-- ITS FALSE NEIGHBOUR: 'it returns false'. Refute it at one input. -/
def escrowGivesWrong : ChangeSpec := { name := "escrowGives", fn := fun _ => fun
  | [d] => { results := [.lit (.bool false)], args := [d] }
  | _ => none }
def EscrowGivesWrongFalsely : Prop := escrowGivesRow.holds Try.pinned (OpenSpec.ofChange escrowGivesWrong)

/-- 'causewaylaw14.EscrowPlays': WHATEVER THE INPUT: true; the input reads as it did. -/
def escrowPlaysSpec : ChangeSpec := { name := "escrowPlays", fn := fun _ => fun
  | [d] => { results := [.lit (.bool true)], args := [d] }
  | _ => none }
def escrowPlaysRow : OpenClaim := { program := "ythgecfjpacebeaa", sum := "9243a780d3f71a19d891e513ba7917eac1a3adc9baa22c5ed79257d0810ef50a", func := "causeway/causewaylaw14.EscrowPlays", spec := "escrowPlays", inPlace := ["math/bits.Add64", "math/bits.Sub64", "maps.clone"], apart := false }
def EscrowPlaysSaid : Prop := escrowPlaysRow.holds Try.pinned (OpenSpec.ofChange escrowPlaysSpec)

/-- ITS FALSE NEIGHBOUR: 'it returns false'. Refute it at one input. -/
def escrowPlaysWrong : ChangeSpec := { name := "escrowPlays", fn := fun _ => fun
  | [d] => { results := [.lit (.bool false)], args := [d] }
  | _ => none }
def EscrowPlaysWrongFalsely : Prop := escrowPlaysRow.holds Try.pinned (OpenSpec.ofChange escrowPlaysWrong)

/-- 'causewaylaw14.EscrowOnce': WHATEVER THE INPUT: true; the input reads as it did. -/
def escrowOnceSpec : ChangeSpec := { name := "escrowOnce", fn := fun _ => fun
  | [d] => { results := [.lit (.bool true)], args := [d] }
  | _ => none }
def escrowOnceRow : OpenClaim := { program := "ythgecfjpacebeaa", sum := "9243a780d3f71a19d891e513ba7917eac1a3adc9baa22c5ed79257d0810ef50a", func := "causeway/causewaylaw14.EscrowOnce", spec := "escrowOnce", inPlace := ["math/bits.Add64", "math/bits.Sub64", "maps.clone"], apart := false }
def EscrowOnceSaid : Prop := escrowOnceRow.holds Try.pinned (OpenSpec.ofChange escrowOnceSpec)

/-- ITS FALSE NEIGHBOUR: 'it returns false'. Refute it at one input. -/
def escrowOnceWrong : ChangeSpec := { name := "escrowOnce", fn := fun _ => fun
  | [d] => { results := [.lit (.bool false)], args := [d] }
  | _ => none }
def EscrowOnceWrongFalsely : Prop := escrowOnceRow.holds Try.pinned (OpenSpec.ofChange escrowOnceWrong)

/-- 'causewaylaw02.WideSums': WHATEVER THE INPUT: true; the input reads as it did. -/
def wideSumsSpec : ChangeSpec := { name := "wideSums", fn := fun _ => fun
  | [d1, d2] => { results := [.lit (.bool true)], args := [d1, d2] }
  | _ => none }
def wideSumsRow : OpenClaim := { program := "ythgecfjpacebeaa", sum := "9243a780d3f71a19d891e513ba7917eac1a3adc9baa22c5ed79257d0810ef50a", func := "causeway/causewaylaw02.WideSums", spec := "wideSums", inPlace := ["math/bits.Add64", "math/bits.Sub64"], named := ["math/bits.divideError", "math/bits.overflowError"], apart := false }
def WideSumsSaid : Prop := wideSumsRow.holds Try.pinned (OpenSpec.ofChange wideSumsSpec)

/-- ITS FALSE NEIGHBOUR: 'it returns false'. Refute it at one input. -/
def wideSumsWrong : ChangeSpec := { name := "wideSums", fn := fun _ => fun
  | [d1, d2] => { results := [.lit (.bool false)], args := [d1, d2] }
  | _ => none }
def WideSumsWrongFalsely : Prop := wideSumsRow.holds Try.pinned (OpenSpec.ofChange wideSumsWrong)

/-- 'causewaylaw02.WideTexts': WHATEVER THE INPUT: true; the input reads as it did. -/
def wideTextsSpec : ChangeSpec := { name := "wideTexts", fn := fun _ => fun
  | [d1, d2] => { results := [.lit (.bool true)], args := [d1, d2] }
  | _ => none }
def wideTextsRow : OpenClaim := { program := "ythgecfjpacebeaa", sum := "9243a780d3f71a19d891e513ba7917eac1a3adc9baa22c5ed79257d0810ef50a", func := "causeway/causewaylaw02.WideTexts", spec := "wideTexts", inPlace := ["math/bits.Add64", "math/bits.Sub64"], named := ["math/bits.divideError", "math/bits.overflowError"], apart := false }
def WideTextsSaid : Prop := wideTextsRow.holds Try.pinned (OpenSpec.ofChange wideTextsSpec)

/-- ITS FALSE NEIGHBOUR: 'it returns false'. Refute it at one input. -/
def wideTextsWrong : ChangeSpec := { name := "wideTexts", fn := fun _ => fun
  | [d1, d2] => { results := [.lit (.bool false)], args := [d1, d2] }
  | _ => none }
def WideTextsWrongFalsely : Prop := wideTextsRow.holds Try.pinned (OpenSpec.ofChange wideTextsWrong)

/-- 'causewaylaw02.WideRing': WHATEVER THE INPUT: true; the input reads as it did. -/
def wideRingSpec : ChangeSpec := { name := "wideRing", fn := fun _ => fun
  | [d1, d2, d3] => { results := [.lit (.bool true)], args := [d1, d2, d3] }
  | _ => none }
def wideRingRow : OpenClaim := { program := "ythgecfjpacebeaa", sum := "9243a780d3f71a19d891e513ba7917eac1a3adc9baa22c5ed79257d0810ef50a", func := "causeway/causewaylaw02.WideRing", spec := "wideRing", inPlace := ["math/bits.Add64", "math/bits.Sub64"], named := ["math/bits.divideError", "math/bits.overflowError"], apart := false }
def WideRingSaid : Prop := wideRingRow.holds Try.pinned (OpenSpec.ofChange wideRingSpec)

/-- ITS FALSE NEIGHBOUR: 'it returns false'. Refute it at one input. -/
def wideRingWrong : ChangeSpec := { name := "wideRing", fn := fun _ => fun
  | [d1, d2, d3] => { results := [.lit (.bool false)], args := [d1, d2, d3] }
  | _ => none }
def WideRingWrongFalsely : Prop := wideRingRow.holds Try.pinned (OpenSpec.ofChange wideRingWrong)

/-- 'causewaylaw02.WideParts': WHATEVER THE INPUT: true; the input reads as it did. -/
def widePartsSpec : ChangeSpec := { name := "wideParts", fn := fun _ => fun
  | [d1, d2, d3] => { results := [.lit (.bool true)], args := [d1, d2, d3] }
  | _ => none }
def widePartsRow : OpenClaim := { program := "ythgecfjpacebeaa", sum := "9243a780d3f71a19d891e513ba7917eac1a3adc9baa22c5ed79257d0810ef50a", func := "causeway/causewaylaw02.WideParts", spec := "wideParts", inPlace := ["math/bits.Add64", "math/bits.Sub64"], named := ["math/bits.divideError", "math/bits.overflowError"], apart := false }
def WidePartsSaid : Prop := widePartsRow.holds Try.pinned (OpenSpec.ofChange widePartsSpec)

/-- ITS FALSE NEIGHBOUR: 'it returns false'. Refute it at one input. -/
def widePartsWrong : ChangeSpec := { name := "wideParts", fn := fun _ => fun
  | [d1, d2, d3] => { results := [.lit (.bool false)], args := [d1, d2, d3] }
  | _ => none }
def WidePartsWrongFalsely : Prop := widePartsRow.holds Try.pinned (OpenSpec.ofChange widePartsWrong)

/-- 'causewaylaw02.WideDivides': WHATEVER THE INPUT: true; the input reads as it did. -/
def wideDividesSpec : ChangeSpec := { name := "wideDivides", fn := fun _ => fun
  | [d1, d2] => { results := [.lit (.bool true)], args := [d1, d2] }
  | _ => none }
def wideDividesRow : OpenClaim := { program := "ythgecfjpacebeaa", sum := "9243a780d3f71a19d891e513ba7917eac1a3adc9baa22c5ed79257d0810ef50a", func := "causeway/causewaylaw02.WideDivides", spec := "wideDivides", inPlace := ["math/bits.Add64", "math/bits.Sub64"], named := ["math/bits.divideError", "math/bits.overflowError"], apart := false }
def WideDividesSaid : Prop := wideDividesRow.holds Try.pinned (OpenSpec.ofChange wideDividesSpec)

/-- ITS FALSE NEIGHBOUR: 'it returns false'. Refute it at one input. -/
def wideDividesWrong : ChangeSpec := { name := "wideDivides", fn := fun _ => fun
  | [d1, d2] => { results := [.lit (.bool false)], args := [d1, d2] }
  | _ => none }
def WideDividesWrongFalsely : Prop := wideDividesRow.holds Try.pinned (OpenSpec.ofChange wideDividesWrong)

/-- 'causewaylaw02.WideOrders': WHATEVER THE INPUT: true; the input reads as it did. -/
def wideOrdersSpec : ChangeSpec := { name := "wideOrders", fn := fun _ => fun
  | [d1, d2, d3] => { results := [.lit (.bool true)], args := [d1, d2, d3] }
  | _ => none }
def wideOrdersRow : OpenClaim := { program := "ythgecfjpacebeaa", sum := "9243a780d3f71a19d891e513ba7917eac1a3adc9baa22c5ed79257d0810ef50a", func := "causeway/causewaylaw02.WideOrders", spec := "wideOrders", inPlace := ["math/bits.Add64", "math/bits.Sub64"], named := ["math/bits.divideError", "math/bits.overflowError"], apart := false }
def WideOrdersSaid : Prop := wideOrdersRow.holds Try.pinned (OpenSpec.ofChange wideOrdersSpec)

/-- ITS FALSE NEIGHBOUR: 'it returns false'. Refute it at one input. -/
def wideOrdersWrong : ChangeSpec := { name := "wideOrders", fn := fun _ => fun
  | [d1, d2, d3] => { results := [.lit (.bool false)], args := [d1, d2, d3] }
  | _ => none }
def WideOrdersWrongFalsely : Prop := wideOrdersRow.holds Try.pinned (OpenSpec.ofChange wideOrdersWrong)

/-- 'causewaylaw02.WideLists': WHATEVER THE INPUT: true; the input reads as it did. -/
def wideListsSpec : ChangeSpec := { name := "wideLists", fn := fun _ => fun
  | [d1, d2] => { results := [.lit (.bool true)], args := [d1, d2] }
  | _ => none }
def wideListsRow : OpenClaim := { program := "ythgecfjpacebeaa", sum := "9243a780d3f71a19d891e513ba7917eac1a3adc9baa22c5ed79257d0810ef50a", func := "causeway/causewaylaw02.WideLists", spec := "wideLists", inPlace := ["math/bits.Add64", "math/bits.Sub64"], named := ["math/bits.divideError", "math/bits.overflowError"], apart := false }
def WideListsSaid : Prop := wideListsRow.holds Try.pinned (OpenSpec.ofChange wideListsSpec)

/-- ITS FALSE NEIGHBOUR: 'it returns false'. Refute it at one input. -/
def wideListsWrong : ChangeSpec := { name := "wideLists", fn := fun _ => fun
  | [d1, d2] => { results := [.lit (.bool false)], args := [d1, d2] }
  | _ => none }
def WideListsWrongFalsely : Prop := wideListsRow.holds Try.pinned (OpenSpec.ofChange wideListsWrong)

/-- 'causewaylaw02.WideCuts': WHATEVER THE INPUT: true; the input reads as it did. -/
def wideCutsSpec : ChangeSpec := { name := "wideCuts", fn := fun _ => fun
  | [d1, d2] => { results := [.lit (.bool true)], args := [d1, d2] }
  | _ => none }
def wideCutsRow : OpenClaim := { program := "ythgecfjpacebeaa", sum := "9243a780d3f71a19d891e513ba7917eac1a3adc9baa22c5ed79257d0810ef50a", func := "causeway/causewaylaw02.WideCuts", spec := "wideCuts", inPlace := ["math/bits.Add64", "math/bits.Sub64"], named := ["math/bits.divideError", "math/bits.overflowError"], apart := false }
def WideCutsSaid : Prop := wideCutsRow.holds Try.pinned (OpenSpec.ofChange wideCutsSpec)

/-- ITS FALSE NEIGHBOUR: 'it returns false'. Refute it at one input. -/
def wideCutsWrong : ChangeSpec := { name := "wideCuts", fn := fun _ => fun
  | [d1, d2] => { results := [.lit (.bool false)], args := [d1, d2] }
  | _ => none }
def WideCutsWrongFalsely : Prop := wideCutsRow.holds Try.pinned (OpenSpec.ofChange wideCutsWrong)

/-- 'causewaylaw02.WideBytes': WHATEVER THE INPUT: true; the input reads as it did. -/
def wideBytesSpec : ChangeSpec := { name := "wideBytes", fn := fun _ => fun
  | [d1, d2, d3] => { results := [.lit (.bool true)], args := [d1, d2, d3] }
  | _ => none }
def wideBytesRow : OpenClaim := { program := "ythgecfjpacebeaa", sum := "9243a780d3f71a19d891e513ba7917eac1a3adc9baa22c5ed79257d0810ef50a", func := "causeway/causewaylaw02.WideBytes", spec := "wideBytes", inPlace := ["math/bits.Add64", "math/bits.Sub64"], named := ["math/bits.divideError", "math/bits.overflowError"], apart := false }
def WideBytesSaid : Prop := wideBytesRow.holds Try.pinned (OpenSpec.ofChange wideBytesSpec)

/-- ITS FALSE NEIGHBOUR: 'it returns false'. Refute it at one input. -/
def wideBytesWrong : ChangeSpec := { name := "wideBytes", fn := fun _ => fun
  | [d1, d2, d3] => { results := [.lit (.bool false)], args := [d1, d2, d3] }
  | _ => none }
def WideBytesWrongFalsely : Prop := wideBytesRow.holds Try.pinned (OpenSpec.ofChange wideBytesWrong)

/-- 'causewaylaw02.WideBack': WHATEVER THE INPUT: true; the input reads as it did. -/
def wideBackSpec : ChangeSpec := { name := "wideBack", fn := fun _ => fun
  | [d] => { results := [.lit (.bool true)], args := [d] }
  | _ => none }
def wideBackRow : OpenClaim := { program := "ythgecfjpacebeaa", sum := "9243a780d3f71a19d891e513ba7917eac1a3adc9baa22c5ed79257d0810ef50a", func := "causeway/causewaylaw02.WideBack", spec := "wideBack", inPlace := ["math/bits.Add64", "math/bits.Sub64"], named := ["math/bits.divideError", "math/bits.overflowError"], apart := false }
def WideBackSaid : Prop := wideBackRow.holds Try.pinned (OpenSpec.ofChange wideBackSpec)

/-- ITS FALSE NEIGHBOUR: 'it returns false'. Refute it at one input. -/
def wideBackWrong : ChangeSpec := { name := "wideBack", fn := fun _ => fun
  | [d] => { results := [.lit (.bool false)], args := [d] }
  | _ => none }
def WideBackWrongFalsely : Prop := wideBackRow.holds Try.pinned (OpenSpec.ofChange wideBackWrong)

/- THE SECOND FORM. 'bulk': how many values and letters a reading holds, each counted each time it is reached (what is shared counts as often as it is met; a slice's spare places count too). A statement '..UptoSaid' is the law's where the arguments, and the package variables that the reading takes, are together of bulk at most 1048576: NARROWER than '..Said'. Prove '..Said' where nothing that the law and all that it calls make is longer than what came in: it says more and counts as full. Else prove '..UptoSaid'. A law counts once. -/
mutual
def uptoBulk {H : Type} : DataW H → Nat
  | .lit (.string bytes) => bytes.length + 1
  | .lit _ => 1
  | .nil => 1
  | .ptr d => uptoBulk d + 1
  | .slice elems spare => uptoBulkAll elems + uptoBulkAll spare + 1
  | .agg parts => uptoBulkAll parts + 1
  | .iface _ d => uptoBulk d + 1
  | .map entries => uptoBulkEntries entries + 1
  | .held _ => 1
def uptoBulkAll {H : Type} : List (DataW H) → Nat
  | [] => 0
  | d :: r => uptoBulk d + uptoBulkAll r
def uptoBulkEntries {H : Type} : List (Lit × DataW H) → Nat
  | [] => 0
  | x :: r => uptoBulkEntry x + uptoBulkEntries r
def uptoBulkEntry {H : Type} : Lit × DataW H → Nat
  | (.string bytes, d) => bytes.length + uptoBulk d + 1
  | (_, d) => uptoBulk d + 1
 end
def uptoSmall : (H : Type) → List (DataW H) → Bool := fun _ ds => decide (uptoBulkAll ds ≤ 1048576)
def OpenSpec.upto (s : _root_.Go.ChangeSpec) : _root_.Go.OpenSpec := { _root_.Go.OpenSpec.ofChange s with cond := some uptoSmall }

/-- 'causewaylaw14.EscrowHeld', WHERE WHAT IT READS IS OF BULK AT MOST 1048576: true; the input reads as it did. -/
def escrowHeldUptoRow : OpenClaim := { program := "ythgecfjpacebeaa", sum := "9243a780d3f71a19d891e513ba7917eac1a3adc9baa22c5ed79257d0810ef50a", func := "causeway/causewaylaw14.EscrowHeld", spec := "escrowHeld", inPlace := ["math/bits.Add64", "math/bits.Sub64"], apart := false, narrowed := true }
def EscrowHeldUptoSaid : Prop := escrowHeldUptoRow.holds Try.pinned (OpenSpec.upto escrowHeldSpec)

/-- 'causewaylaw14.EscrowRefused', WHERE WHAT IT READS IS OF BULK AT MOST 1048576: true; the input reads as it did. -/
def escrowRefusedUptoRow : OpenClaim := { program := "ythgecfjpacebeaa", sum := "9243a780d3f71a19d891e513ba7917eac1a3adc9baa22c5ed79257d0810ef50a", func := "causeway/causewaylaw14.EscrowRefused", spec := "escrowRefused", inPlace := ["math/bits.Add64", "math/bits.Sub64"], apart := false, narrowed := true }
def EscrowRefusedUptoSaid : Prop := escrowRefusedUptoRow.holds Try.pinned (OpenSpec.upto escrowRefusedSpec)

/-- 'causewaylaw14.EscrowGives', WHERE WHAT IT READS IS OF BULK AT MOST 1048576: true; the input reads as it did. -/
def escrowGivesUptoRow : OpenClaim := { program := "ythgecfjpacebeaa", sum := "9243a780d3f71a19d891e513ba7917eac1a3adc9baa22c5ed79257d0810ef50a", func := "causeway/causewaylaw14.EscrowGives", spec := "escrowGives", inPlace := ["math/bits.Add64", "math/bits.Sub64"], apart := false, narrowed := true }
def EscrowGivesUptoSaid : Prop := escrowGivesUptoRow.holds Try.pinned (OpenSpec.upto escrowGivesSpec)

/-- 'causewaylaw14.EscrowPlays', WHERE WHAT IT READS IS OF BULK AT MOST 1048576: true; the input reads as it did. -/
def escrowPlaysUptoRow : OpenClaim := { program := "ythgecfjpacebeaa", sum := "9243a780d3f71a19d891e513ba7917eac1a3adc9baa22c5ed79257d0810ef50a", func := "causeway/causewaylaw14.EscrowPlays", spec := "escrowPlays", inPlace := ["math/bits.Add64", "math/bits.Sub64", "maps.clone"], apart := false, narrowed := true }
def EscrowPlaysUptoSaid : Prop := escrowPlaysUptoRow.holds Try.pinned (OpenSpec.upto escrowPlaysSpec)

/-- 'causewaylaw14.EscrowOnce', WHERE WHAT IT READS IS OF BULK AT MOST 1048576: true; the input reads as it did. -/
def escrowOnceUptoRow : OpenClaim := { program := "ythgecfjpacebeaa", sum := "9243a780d3f71a19d891e513ba7917eac1a3adc9baa22c5ed79257d0810ef50a", func := "causeway/causewaylaw14.EscrowOnce", spec := "escrowOnce", inPlace := ["math/bits.Add64", "math/bits.Sub64", "maps.clone"], apart := false, narrowed := true }
def EscrowOnceUptoSaid : Prop := escrowOnceUptoRow.holds Try.pinned (OpenSpec.upto escrowOnceSpec)

/-- 'causewaylaw02.WideSums', WHERE WHAT IT READS IS OF BULK AT MOST 1048576: true; the input reads as it did. -/
def wideSumsUptoRow : OpenClaim := { program := "ythgecfjpacebeaa", sum := "9243a780d3f71a19d891e513ba7917eac1a3adc9baa22c5ed79257d0810ef50a", func := "causeway/causewaylaw02.WideSums", spec := "wideSums", inPlace := ["math/bits.Add64", "math/bits.Sub64"], named := ["math/bits.divideError", "math/bits.overflowError"], apart := false, narrowed := true }
def WideSumsUptoSaid : Prop := wideSumsUptoRow.holds Try.pinned (OpenSpec.upto wideSumsSpec)

/-- 'causewaylaw02.WideTexts', WHERE WHAT IT READS IS OF BULK AT MOST 1048576: true; the input reads as it did. -/
def wideTextsUptoRow : OpenClaim := { program := "ythgecfjpacebeaa", sum := "9243a780d3f71a19d891e513ba7917eac1a3adc9baa22c5ed79257d0810ef50a", func := "causeway/causewaylaw02.WideTexts", spec := "wideTexts", inPlace := ["math/bits.Add64", "math/bits.Sub64"], named := ["math/bits.divideError", "math/bits.overflowError"], apart := false, narrowed := true }
def WideTextsUptoSaid : Prop := wideTextsUptoRow.holds Try.pinned (OpenSpec.upto wideTextsSpec)

/-- 'causewaylaw02.WideRing', WHERE WHAT IT READS IS OF BULK AT MOST 1048576: true; the input reads as it did. -/
def wideRingUptoRow : OpenClaim := { program := "ythgecfjpacebeaa", sum := "9243a780d3f71a19d891e513ba7917eac1a3adc9baa22c5ed79257d0810ef50a", func := "causeway/causewaylaw02.WideRing", spec := "wideRing", inPlace := ["math/bits.Add64", "math/bits.Sub64"], named := ["math/bits.divideError", "math/bits.overflowError"], apart := false, narrowed := true }
def WideRingUptoSaid : Prop := wideRingUptoRow.holds Try.pinned (OpenSpec.upto wideRingSpec)

/-- 'causewaylaw02.WideParts', WHERE WHAT IT READS IS OF BULK AT MOST 1048576: true; the input reads as it did. -/
def widePartsUptoRow : OpenClaim := { program := "ythgecfjpacebeaa", sum := "9243a780d3f71a19d891e513ba7917eac1a3adc9baa22c5ed79257d0810ef50a", func := "causeway/causewaylaw02.WideParts", spec := "wideParts", inPlace := ["math/bits.Add64", "math/bits.Sub64"], named := ["math/bits.divideError", "math/bits.overflowError"], apart := false, narrowed := true }
def WidePartsUptoSaid : Prop := widePartsUptoRow.holds Try.pinned (OpenSpec.upto widePartsSpec)

/-- 'causewaylaw02.WideDivides', WHERE WHAT IT READS IS OF BULK AT MOST 1048576: true; the input reads as it did. -/
def wideDividesUptoRow : OpenClaim := { program := "ythgecfjpacebeaa", sum := "9243a780d3f71a19d891e513ba7917eac1a3adc9baa22c5ed79257d0810ef50a", func := "causeway/causewaylaw02.WideDivides", spec := "wideDivides", inPlace := ["math/bits.Add64", "math/bits.Sub64"], named := ["math/bits.divideError", "math/bits.overflowError"], apart := false, narrowed := true }
def WideDividesUptoSaid : Prop := wideDividesUptoRow.holds Try.pinned (OpenSpec.upto wideDividesSpec)

/-- 'causewaylaw02.WideOrders', WHERE WHAT IT READS IS OF BULK AT MOST 1048576: true; the input reads as it did. -/
def wideOrdersUptoRow : OpenClaim := { program := "ythgecfjpacebeaa", sum := "9243a780d3f71a19d891e513ba7917eac1a3adc9baa22c5ed79257d0810ef50a", func := "causeway/causewaylaw02.WideOrders", spec := "wideOrders", inPlace := ["math/bits.Add64", "math/bits.Sub64"], named := ["math/bits.divideError", "math/bits.overflowError"], apart := false, narrowed := true }
def WideOrdersUptoSaid : Prop := wideOrdersUptoRow.holds Try.pinned (OpenSpec.upto wideOrdersSpec)

/-- 'causewaylaw02.WideLists', WHERE WHAT IT READS IS OF BULK AT MOST 1048576: true; the input reads as it did. -/
def wideListsUptoRow : OpenClaim := { program := "ythgecfjpacebeaa", sum := "9243a780d3f71a19d891e513ba7917eac1a3adc9baa22c5ed79257d0810ef50a", func := "causeway/causewaylaw02.WideLists", spec := "wideLists", inPlace := ["math/bits.Add64", "math/bits.Sub64"], named := ["math/bits.divideError", "math/bits.overflowError"], apart := false, narrowed := true }
def WideListsUptoSaid : Prop := wideListsUptoRow.holds Try.pinned (OpenSpec.upto wideListsSpec)

/-- 'causewaylaw02.WideCuts', WHERE WHAT IT READS IS OF BULK AT MOST 1048576: true; the input reads as it did. -/
def wideCutsUptoRow : OpenClaim := { program := "ythgecfjpacebeaa", sum := "9243a780d3f71a19d891e513ba7917eac1a3adc9baa22c5ed79257d0810ef50a", func := "causeway/causewaylaw02.WideCuts", spec := "wideCuts", inPlace := ["math/bits.Add64", "math/bits.Sub64"], named := ["math/bits.divideError", "math/bits.overflowError"], apart := false, narrowed := true }
def WideCutsUptoSaid : Prop := wideCutsUptoRow.holds Try.pinned (OpenSpec.upto wideCutsSpec)

/-- 'causewaylaw02.WideBytes', WHERE WHAT IT READS IS OF BULK AT MOST 1048576: true; the input reads as it did. -/
def wideBytesUptoRow : OpenClaim := { program := "ythgecfjpacebeaa", sum := "9243a780d3f71a19d891e513ba7917eac1a3adc9baa22c5ed79257d0810ef50a", func := "causeway/causewaylaw02.WideBytes", spec := "wideBytes", inPlace := ["math/bits.Add64", "math/bits.Sub64"], named := ["math/bits.divideError", "math/bits.overflowError"], apart := false, narrowed := true }
def WideBytesUptoSaid : Prop := wideBytesUptoRow.holds Try.pinned (OpenSpec.upto wideBytesSpec)

/-- 'causewaylaw02.WideBack', WHERE WHAT IT READS IS OF BULK AT MOST 1048576: true; the input reads as it did. -/
def wideBackUptoRow : OpenClaim := { program := "ythgecfjpacebeaa", sum := "9243a780d3f71a19d891e513ba7917eac1a3adc9baa22c5ed79257d0810ef50a", func := "causeway/causewaylaw02.WideBack", spec := "wideBack", inPlace := ["math/bits.Add64", "math/bits.Sub64"], named := ["math/bits.divideError", "math/bits.overflowError"], apart := false, narrowed := true }
def WideBackUptoSaid : Prop := wideBackUptoRow.holds Try.pinned (OpenSpec.upto wideBackSpec)

end Rows
end Go.Proofs.Ythgecfjpacebeaa
