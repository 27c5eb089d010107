/- MachineNew returns true for any two texts, and leaves what came in as it was. No condition but the card's own: Go's tables that the row lists read as the program's text lays them. -/
import Derived.Test.YtlapmbkfmbkdoaaGreatDoorSd7
import Derived.Test.YtlapmbkfmbkdoaaGreatDoorCards
import Derived.Test.YtlapmbkfmbkdoaaGreatDoorTie
import Derived.SevenTiedAt
import Derived.LaidMore
import Derived.MakeChecks
import Derived.Handed
import Derived.Lay
namespace Go.Proofs.YtlapmbkfmbkdoaaGreatDoor
open Go.Fw Go.ChangeShapes Go.WideShapes Go.ChangeAt Go.RowKit
open Go.ChangeMaps (open_string shut_string)
set_option linter.unusedVariables false

theorem machineNew_own : ownKnob Tryz.prog.godebug = none := by kernel_rfl
theorem machineNew_laidOut : laidOutB Tryz.prog = true := by kernel_rfl

set_option maxRecDepth 100000 in
theorem machineNew_lifted (os : Os) (started : os.Started) (H : Type) (enc : TypeId × Value → H) :
    ReturnsInHanded {} Tryz.checked os 6 .any (fun w args => (Rows.machineNewSpec.pre enc Tryz.prog Tryz.f6 Rows.machineNewRow.domain false w args ∧ laidMetH Tryz.prog Rows.machineNewRow.laid w) ∧ sizedMet enc Tryz.prog Tryz.f6 (OpenSpec.ofChange Rows.machineNewSpec) false w args) (Rows.machineNewSpec.post enc Tryz.prog Tryz.f6 false true false false) := by
  refine handed_sh (C := Tryz.checked) (X := fun w _ => laidMetH Tryz.prog Rows.machineNewRow.laid w) (fun _ _ _ hh h => h.of_heap hh) machineNew_own started (by kernel_rfl) Tryz.func6
    (ChangeSpec.witness_shaped (enc := enc) (C := Tryz.checked) (os := os) (X := fun w _ => laidMetH Tryz.prog Rows.machineNewRow.laid w) false (World.laidAll Tryz.prog os Rows.machineNewRow.laid) #[.string ⟨#[]⟩, .string ⟨#[]⟩] 8 (World.laidAll_os _ _ _)
      (World.shaped_of_ZipB (by kernel_rfl) (by kernel_rfl)) (by kernel_rfl) (by kernel_rfl) (by kernel_rfl)
      (by rw [MakeChecks.laidMetH_plain _ _ _ (by kernel_rfl)]; exact laidMet_laidAll _ (by kernel_rfl) (by kernel_rfl))) ?_
  intro W base args ds gs before hval0 hW hcnd hsz0 hL hSh
  have hval : ∀ (j : Nat) t v, Tryz.f6.params[j]? = some t → args[j]? = some v → Value.okWide Tryz.prog W .any base t v := hval0
  have hW' := hW
  obtain ⟨p, q, hA0, hV, rfl, hfz, hnd⟩ := hW
  have hA : DataW.TrodAll enc Tryz.prog W 0 (fun _ => true) true Tryz.f6.params.toList args.toList ds p := hA0
  rw [Tryz.params6] at hA hval
  obtain ⟨v0, vs0, d0, ds0, p0, q0, hargs, rfl, rfl, h0, r0⟩ := trodAll_cons hA
  obtain ⟨v1, vs1, d1, ds1, p1, q1, rfl, rfl, rfl, h1, r1⟩ := trodAll_cons r0
  obtain ⟨rfl, rfl, rfl⟩ := trodAll_nil r1
  obtain rfl : args = #[v0, v1] := by cases args; simp_all
  obtain ⟨rfl, rfl⟩ := trodVars_none hV
  have hsz : (DataW.weightsEach Tryz.prog (Tryz.f6.params.toList ++ Rows.machineNewSpec.plain.varTypes Tryz.prog) ([d0, d1] ++ [])).all (· ≤ reachBytes) = true := hsz0
  rw [Tryz.params6] at hsz
  have k0 := h0
  have lt0 : ∀ x ∈ p0, x.block < W.heap.size := by obtain ⟨m, hm⟩ := k0; exact DataW.trod_lt m _ _ _ hm
  have k1 := h1
  have lt1 : ∀ x ∈ p1, x.block < W.heap.size := by obtain ⟨m, hm⟩ := k1; exact DataW.trod_lt m _ _ _ hm
  obtain ⟨s0, rfl⟩ := okWide_string Tryz.underlying9 (hval 0 9 v0 rfl rfl)
  obtain ⟨s1, rfl⟩ := okWide_string Tryz.underlying9 (hval 1 9 v1 rfl rfl)
  clear hA0 hval0
  have hMx := max_of hSh
  refine Calls.mono (machineNew_calls s0 s1 W hMx) fun e W' ⟨v, s, he, ⟨hv, hs⟩, hS⟩ => ?_
  subst he hv
  have bel := hS.below
  exact ⟨_, rfl, _, _, _, [], _, [], hW', trodAll_mk1 (shut_bool Tryz.underlying4 _), (trodAll_cons_mk (Below.trod machineNew_laidOut (by kernel_rfl) (of_decide_eq_true (by kernel_rfl)) k0 bel lt0) (trodAll_cons_mk (Below.trod machineNew_laidOut (by kernel_rfl) (of_decide_eq_true (by kernel_rfl)) k1 bel lt1) trodAll_mk0)), rfl, bel.frame _, fun h => by cases h⟩

theorem machineNew_over : Rows.machineNewRow.holds Tryz.pinned (OpenSpec.ofChange Rows.machineNewSpec) :=
  OpenClaim.holds_of_wide 6 Tryz.f6 rfl rfl rfl rfl rfl rfl rfl ⟨rfl, rfl, rfl, rfl, rfl⟩ rfl rfl rfl rfl rfl (by kernel_rfl) Tryz.func6 (by kernel_rfl)
    (of_decide_eq_true (by kernel_rfl)) (by unfold Func.isWrapper; first | (rw [if_pos (by decide +kernel)]; kernel_rfl) | (rw [if_neg (by decide +kernel)]; exact ⟨rfl, rfl⟩))
    (fun os started H enc _ => machineNew_lifted os started H enc)

theorem machineNew_holds : Rows.MachineNewSaid := machineNew_over
theorem machineNew_card : Rows.MachineNewCardSaid :=
  Claim7.holds_tied_plain_at .later [] [.data, .pinned] true (true, "c4038cdab18fc4e0a1a6bee60ebfef707e5e8a083c7384509e24abd157fd5264") false
    machineNew_holds (fun _ h => by cases h) (by kernel_rfl) (fun _ h => by cases h) machineNew_row_tie rfl ⟨rfl, rfl⟩ (by kernel_rfl) rfl
    (fun f fn hf hfn => by
      obtain rfl : f = 6 := Option.some.inj ((show Tryz.prog.funcNamed "causeway/causewaylaw10.MachineNew" = some 6 by kernel_rfl).symm.trans hf) |>.symm
      obtain rfl : fn = Tryz.f6 := (Option.some.inj (Tryz.func6.symm.trans hfn)).symm
      exact ⟨by kernel_rfl, fun j t ht => by
        rw [Tryz.params6] at ht
        have hm : t ∈ [9, 9] := by simpa using Array.mem_of_getElem? ht
        have hall : ([9, 9].all fun u => !Tryz.prog.wantsStandIn u) = true := by kernel_rfl
        exact (show Tryz.prog.wantsStandIn t = false by simpa using List.all_eq_true.1 hall t hm)⟩)
    (by kernel_rfl)
end Go.Proofs.YtlapmbkfmbkdoaaGreatDoor
