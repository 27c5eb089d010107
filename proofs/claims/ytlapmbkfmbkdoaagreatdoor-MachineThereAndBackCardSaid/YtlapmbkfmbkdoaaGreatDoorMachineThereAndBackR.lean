/- MachineThereAndBack returns true for any play, and leaves what came in as it was. No condition but the card's own: Go's tables that the row lists read as the program's text lays them. -/
import Derived.Test.YtlapmbkfmbkdoaaGreatDoorSf7
import Derived.Test.YtlapmbkfmbkdoaaGreatDoorCards
import Derived.Test.YtlapmbkfmbkdoaaGreatDoorTie
import Derived.SevenTiedAt
import Derived.LaidMore
import Derived.MakeChecks
import Derived.Handed
import Derived.Lay
namespace Go.Proofs.YtlapmbkfmbkdoaaGreatDoor
open Go.Fw Go.ChangeShapes Go.WideShapes Go.ChangeAt Go.RowKit
open Go.ChangeMaps (open_string shut_string)
set_option linter.unusedVariables false

theorem machineThereAndBack_own : ownKnob Tryz.prog.godebug = none := by kernel_rfl
theorem machineThereAndBack_laidOut : laidOutB Tryz.prog = true := by kernel_rfl

set_option maxRecDepth 100000 in
theorem machineThereAndBack_lifted (os : Os) (started : os.Started) (H : Type) (enc : TypeId × Value → H) :
    ReturnsInHanded {} Tryz.checked os 7 .any (fun w args => (Rows.machineThereAndBackSpec.pre enc Tryz.prog Tryz.f7 Rows.machineThereAndBackRow.domain false w args ∧ laidMetH Tryz.prog Rows.machineThereAndBackRow.laid w) ∧ sizedMet enc Tryz.prog Tryz.f7 (OpenSpec.ofChange Rows.machineThereAndBackSpec) false w args) (Rows.machineThereAndBackSpec.post enc Tryz.prog Tryz.f7 false true false false) := by
  refine handed_sh (C := Tryz.checked) (X := fun w _ => laidMetH Tryz.prog Rows.machineThereAndBackRow.laid w) (fun _ _ _ hh h => h.of_heap hh) machineThereAndBack_own started (by kernel_rfl) Tryz.func7
    (ChangeSpec.witness_shaped (enc := enc) (C := Tryz.checked) (os := os) (X := fun w _ => laidMetH Tryz.prog Rows.machineThereAndBackRow.laid w) false (World.laidAll Tryz.prog os Rows.machineThereAndBackRow.laid) #[.agg #[.slice none 0 0, .int .u8 0, .int .u8 0, .int .u8 0, .int .u8 0, .int .u8 0, .int .u8 0, .int .u8 0, .int .u8 0, .int .u8 0, .int .u8 0, .int .u8 0, .int .u8 0, .int .u8 0, .int .u8 0, .int .u8 0, .int .u8 0, .int .u8 0, .int .u8 0, .int .u8 0, .int .u8 0, .int .u8 0, .int .u8 0, .int .u8 0, .int .u8 0, .int .u8 0, .int .u8 0, .int .u8 0, .int .u8 0, .int .u8 0, .int .u8 0, .int .u8 0, .int .u8 0, .int .u8 0, .int .u8 0, .int .u8 0, .int .u8 0, .int .u8 0, .int .u8 0, .int .u8 0, .int .u8 0, .int .i64 0, .int .u64 0, .int .u64 0, .int .u64 0, .int .u64 0, .slice none 0 0, .int .i64 0, .int .i64 0, .slice none 0 0]] 8 (World.laidAll_os _ _ _)
      (World.shaped_of_ZipB (by kernel_rfl) (by kernel_rfl)) (by kernel_rfl) (by kernel_rfl) (by kernel_rfl)
      (by rw [MakeChecks.laidMetH_plain _ _ _ (by kernel_rfl)]; exact laidMet_laidAll _ (by kernel_rfl) (by kernel_rfl))) ?_
  intro W base args ds gs before hval0 hW hcnd hsz0 hL hSh
  have hval : ∀ (j : Nat) t v, Tryz.f7.params[j]? = some t → args[j]? = some v → Value.okWide Tryz.prog W .any base t v := hval0
  have hW' := hW
  obtain ⟨p, q, hA0, hV, rfl, hfz, hnd⟩ := hW
  have hA : DataW.TrodAll enc Tryz.prog W 0 (fun _ => true) true Tryz.f7.params.toList args.toList ds p := hA0
  rw [Tryz.params7] at hA hval
  obtain ⟨v0, vs0, d0, ds0, p0, q0, hargs, rfl, rfl, h0, r0⟩ := trodAll_cons hA
  obtain ⟨rfl, rfl, rfl⟩ := trodAll_nil r0
  obtain rfl : args = #[v0] := by cases args; simp_all
  obtain ⟨rfl, rfl⟩ := trodVars_none hV
  have hsz : (DataW.weightsEach Tryz.prog (Tryz.f7.params.toList ++ Rows.machineThereAndBackSpec.plain.varTypes Tryz.prog) ([d0] ++ [])).all (· ≤ reachBytes) = true := hsz0
  rw [Tryz.params7] at hsz
  have k0 := h0
  have lt0 : ∀ x ∈ p0, x.block < W.heap.size := by obtain ⟨m, hm⟩ := k0; exact DataW.trod_lt m _ _ _ hm
  obtain ⟨cs0, rfl, _, _⟩ : ∃ cs, v0 = .agg cs ∧ cs.size = Tryz.prog.cellsOf 38 ∧ Row.okWide Tryz.prog W .any base 38 cs := by
    have := hval 0 38 v0 rfl rfl
    simpa [Value.okWide, Tryz.underlying38] using this
  obtain ⟨fuel0, hf0⟩ := h0
  obtain ⟨F, hp, hcs0⟩ := open_play hf0 (fun n hn => by have := List.all_eq_true.1 hsz n (DataW.weights_mem_each (j := 0) rfl rfl n hn); simpa using this)
  obtain rfl : cs0 = (plays F).toArray := by
    apply Array.toList_inj.1; simpa [Value.cells] using hcs0
  clear hA0 hval0
  have ht := pow_back (by rw [MakeChecks.laidMetH_plain _ _ _ (by kernel_rfl)] at hL; exact hL)
  have hMx := max_of hSh
  refine Calls.mono (machineThereAndBack_calls F W hp ht hMx) fun e W' ⟨v, s, he, ⟨hv, hs⟩, hS⟩ => ?_
  subst he hv
  have bel := hS.below
  exact ⟨_, rfl, _, _, _, [], _, [], hW', trodAll_mk1 (shut_bool Tryz.underlying4 _), (trodAll_cons_mk (Below.trod machineThereAndBack_laidOut (by kernel_rfl) (of_decide_eq_true (by kernel_rfl)) k0 bel lt0) trodAll_mk0), rfl, bel.frame _, fun h => by cases h⟩

theorem machineThereAndBack_over : Rows.machineThereAndBackRow.holds Tryz.pinned (OpenSpec.ofChange Rows.machineThereAndBackSpec) :=
  OpenClaim.holds_of_wide 7 Tryz.f7 rfl rfl rfl rfl rfl rfl rfl ⟨rfl, rfl, rfl, rfl, rfl⟩ rfl rfl rfl rfl rfl (by kernel_rfl) Tryz.func7 (by kernel_rfl)
    (of_decide_eq_true (by kernel_rfl)) (by unfold Func.isWrapper; first | (rw [if_pos (by decide +kernel)]; kernel_rfl) | (rw [if_neg (by decide +kernel)]; exact ⟨rfl, rfl⟩))
    (fun os started H enc _ => machineThereAndBack_lifted os started H enc)

theorem machineThereAndBack_holds : Rows.MachineThereAndBackSaid := machineThereAndBack_over
theorem machineThereAndBack_card : Rows.MachineThereAndBackCardSaid :=
  Claim7.holds_tied_plain_at .later [] [.data, .data, .data, .data, .pinned] true (true, "c4038cdab18fc4e0a1a6bee60ebfef707e5e8a083c7384509e24abd157fd5264") false
    machineThereAndBack_holds (fun _ h => by cases h) (by kernel_rfl) (fun _ h => by cases h) machineThereAndBack_row_tie rfl ⟨rfl, rfl⟩ (by kernel_rfl) rfl
    (fun f fn hf hfn => by
      obtain rfl : f = 7 := Option.some.inj ((show Tryz.prog.funcNamed "causeway/causewaylaw10.MachineThereAndBack" = some 7 by kernel_rfl).symm.trans hf) |>.symm
      obtain rfl : fn = Tryz.f7 := (Option.some.inj (Tryz.func7.symm.trans hfn)).symm
      exact ⟨by kernel_rfl, fun j t ht => by
        rw [Tryz.params7] at ht
        have hm : t ∈ [38] := by simpa using Array.mem_of_getElem? ht
        have hall : ([38].all fun u => !Tryz.prog.wantsStandIn u) = true := by kernel_rfl
        exact (show Tryz.prog.wantsStandIn t = false by simpa using List.all_eq_true.1 hall t hm)⟩)
    (by kernel_rfl)
end Go.Proofs.YtlapmbkfmbkdoaaGreatDoor
