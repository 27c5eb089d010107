/- MachineKeeps returns true for any play and any bytes, and leaves what came in as it was. No condition but the card's own: Go's tables that the row lists read as the program's text lays them. -/
import Derived.Test.YtlapmbkfmbkdoaaGreatDoorSb7
import Derived.Test.YtlapmbkfmbkdoaaGreatDoorCards
import Derived.Test.YtlapmbkfmbkdoaaGreatDoorTie
import Derived.SevenTiedAt
import Derived.LaidMore
import Derived.MakeChecks
import Derived.Handed
import Derived.Lay
namespace Go.Proofs.YtlapmbkfmbkdoaaGreatDoor
open Go.Fw Go.ChangeShapes Go.WideShapes Go.ChangeAt Go.RowKit
open Go.ChangeMaps (open_string shut_string)
set_option linter.unusedVariables false

theorem machineKeeps_own : ownKnob Tryz.prog.godebug = none := by kernel_rfl
theorem machineKeeps_laidOut : laidOutB Tryz.prog = true := by kernel_rfl

set_option maxRecDepth 100000 in
theorem machineKeeps_lifted (os : Os) (started : os.Started) (H : Type) (enc : TypeId × Value → H) :
    ReturnsInHanded {} Tryz.checked os 4 .any (fun w args => (Rows.machineKeepsSpec.pre enc Tryz.prog Tryz.f4 Rows.machineKeepsRow.domain false w args ∧ laidMetH Tryz.prog Rows.machineKeepsRow.laid w) ∧ sizedMet enc Tryz.prog Tryz.f4 (OpenSpec.ofChange Rows.machineKeepsSpec) false w args) (Rows.machineKeepsSpec.post enc Tryz.prog Tryz.f4 false true false false) := by
  refine returnsInHanded_of_change_and (C := Tryz.checked) (X := fun w _ => laidMetH Tryz.prog Rows.machineKeepsRow.laid w) (fun _ _ _ hh h => h.of_heap hh) machineKeeps_own started (by kernel_rfl) Tryz.func4
    (ChangeSpec.witness_shaped (enc := enc) (C := Tryz.checked) (os := os) (X := fun w _ => laidMetH Tryz.prog Rows.machineKeepsRow.laid w) false (World.laidAll Tryz.prog os Rows.machineKeepsRow.laid) #[.agg #[.slice none 0 0, .int .u8 0, .int .u8 0, .int .u8 0, .int .u8 0, .int .u8 0, .int .u8 0, .int .u8 0, .int .u8 0, .int .u8 0, .int .u8 0, .int .u8 0, .int .u8 0, .int .u8 0, .int .u8 0, .int .u8 0, .int .u8 0, .int .u8 0, .int .u8 0, .int .u8 0, .int .u8 0, .int .u8 0, .int .u8 0, .int .u8 0, .int .u8 0, .int .u8 0, .int .u8 0, .int .u8 0, .int .u8 0, .int .u8 0, .int .u8 0, .int .u8 0, .int .u8 0, .int .u8 0, .int .u8 0, .int .u8 0, .int .u8 0, .int .u8 0, .int .u8 0, .int .u8 0, .int .u8 0, .int .i64 0, .int .u64 0, .int .u64 0, .int .u64 0, .int .u64 0, .slice none 0 0, .int .i64 0, .int .i64 0, .slice none 0 0], .slice none 0 0] 8 (World.laidAll_os _ _ _)
      (World.shaped_of_ZipB (by kernel_rfl) (by kernel_rfl)) (by kernel_rfl) (by kernel_rfl) (by kernel_rfl)
      (by rw [MakeChecks.laidMetH_plain _ _ _ (by kernel_rfl)]; exact laidMet_laidAll _ (by kernel_rfl) (by kernel_rfl))) ?_
  intro W base args ds gs before hval0 hW hcnd hsz0 hL _
  have hval : ∀ (j : Nat) t v, Tryz.f4.params[j]? = some t → args[j]? = some v → Value.okWide Tryz.prog W .any base t v := hval0
  have hW' := hW
  obtain ⟨p, q, hA0, hV, rfl, hfz, hnd⟩ := hW
  have hA : DataW.TrodAll enc Tryz.prog W 0 (fun _ => true) true Tryz.f4.params.toList args.toList ds p := hA0
  rw [Tryz.params4] at hA hval
  obtain ⟨v0, vs0, d0, ds0, p0, q0, hargs, rfl, rfl, h0, r0⟩ := trodAll_cons hA
  obtain ⟨v1, vs1, d1, ds1, p1, q1, rfl, rfl, rfl, h1, r1⟩ := trodAll_cons r0
  obtain ⟨rfl, rfl, rfl⟩ := trodAll_nil r1
  obtain rfl : args = #[v0, v1] := by cases args; simp_all
  obtain ⟨rfl, rfl⟩ := trodVars_none hV
  have hsz : (DataW.weightsEach Tryz.prog (Tryz.f4.params.toList ++ Rows.machineKeepsSpec.plain.varTypes Tryz.prog) ([d0, d1] ++ [])).all (· ≤ reachBytes) = true := hsz0
  rw [Tryz.params4] at hsz
  have k0 := h0
  have lt0 : ∀ x ∈ p0, x.block < W.heap.size := by obtain ⟨m, hm⟩ := k0; exact DataW.trod_lt m _ _ _ hm
  have k1 := h1
  have lt1 : ∀ x ∈ p1, x.block < W.heap.size := by obtain ⟨m, hm⟩ := k1; exact DataW.trod_lt m _ _ _ hm
  obtain ⟨cs0, rfl, _, _⟩ : ∃ cs, v0 = .agg cs ∧ cs.size = Tryz.prog.cellsOf 38 ∧ Row.okWide Tryz.prog W .any base 38 cs := by
    have := hval 0 38 v0 rfl rfl
    simpa [Value.okWide, Tryz.underlying38] using this
  obtain ⟨fuel0, hf0⟩ := h0
  obtain ⟨F, hp, hcs0⟩ := open_play hf0 (fun n hn => by have := List.all_eq_true.1 hsz n (DataW.weights_mem_each (j := 0) rfl rfl n hn); simpa using this)
  obtain rfl : cs0 = (plays F).toArray := by
    apply Array.toList_inj.1; simpa [Value.cells] using hcs0
  obtain ⟨A1, len1, cap1, rfl⟩ := okWide_slice Tryz.underlying22 (hval 1 22 v1 rfl rfl)
  obtain ⟨fuel1, hf1⟩ := h1
  have hw1 := slice_weight (j := 1) (A := A1) (len := len1) (cap := cap1) hsz rfl rfl Tryz.underlying22 (by simpa [Value.cells] using hf1)
  rw [bytes5, show reachBytes = 140737488351232 from rfl] at hw1
  obtain ⟨l1, hn1, hW1, hR1, hc1, hm1⟩ := open_byteL (A := A1) (len := len1) (cap := cap1) (by simpa [Value.cells] using hf1)
  clear hA0 hval0
  subst hn1
  have ht := pow_laid (by rw [MakeChecks.laidMetH_plain _ _ _ (by kernel_rfl)] at hL; exact hL)
  refine Calls.mono (keeps_calls F A1 cap1 l1 W hp hR1 hW1 hc1 hm1 ht) fun e W' ⟨v, s, he, ⟨hv, hs⟩, hS⟩ => ?_
  subst he hv
  have bel := hS.below
  exact ⟨_, rfl, _, _, _, [], _, [], hW', trodAll_mk1 (shut_bool Tryz.underlying4 _), (trodAll_cons_mk (Below.trod machineKeeps_laidOut (by kernel_rfl) (of_decide_eq_true (by kernel_rfl)) k0 bel lt0) (trodAll_cons_mk (Below.trod machineKeeps_laidOut (by kernel_rfl) (of_decide_eq_true (by kernel_rfl)) k1 bel lt1) trodAll_mk0)), rfl, bel.frame _, fun h => by cases h⟩

theorem machineKeeps_over : Rows.machineKeepsRow.holds Tryz.pinned (OpenSpec.ofChange Rows.machineKeepsSpec) :=
  OpenClaim.holds_of_wide 4 Tryz.f4 rfl rfl rfl rfl rfl rfl rfl ⟨rfl, rfl, rfl, rfl, rfl⟩ rfl rfl rfl rfl rfl (by kernel_rfl) Tryz.func4 (by kernel_rfl)
    (of_decide_eq_true (by kernel_rfl)) (by unfold Func.isWrapper; first | (rw [if_pos (by decide +kernel)]; kernel_rfl) | (rw [if_neg (by decide +kernel)]; exact ⟨rfl, rfl⟩))
    (fun os started H enc _ => machineKeeps_lifted os started H enc)

theorem machineKeeps_holds : Rows.MachineKeepsSaid := machineKeeps_over
theorem machineKeeps_card : Rows.MachineKeepsCardSaid :=
  Claim7.holds_tied_plain_at .later [] [.data, .data, .data] true (true, "c4038cdab18fc4e0a1a6bee60ebfef707e5e8a083c7384509e24abd157fd5264") false
    machineKeeps_holds (fun _ h => by cases h) (by kernel_rfl) (fun _ h => by cases h) machineKeeps_row_tie rfl ⟨rfl, rfl⟩ (by kernel_rfl) rfl
    (fun f fn hf hfn => by
      obtain rfl : f = 4 := Option.some.inj ((show Tryz.prog.funcNamed "causeway/causewaylaw10.MachineKeeps" = some 4 by kernel_rfl).symm.trans hf) |>.symm
      obtain rfl : fn = Tryz.f4 := (Option.some.inj (Tryz.func4.symm.trans hfn)).symm
      exact ⟨by kernel_rfl, fun j t ht => by
        rw [Tryz.params4] at ht
        have hm : t ∈ [38, 22] := by simpa using Array.mem_of_getElem? ht
        have hall : ([38, 22].all fun u => !Tryz.prog.wantsStandIn u) = true := by kernel_rfl
        exact (show Tryz.prog.wantsStandIn t = false by simpa using List.all_eq_true.1 hall t hm)⟩)
    (by kernel_rfl)
end Go.Proofs.YtlapmbkfmbkdoaaGreatDoor
