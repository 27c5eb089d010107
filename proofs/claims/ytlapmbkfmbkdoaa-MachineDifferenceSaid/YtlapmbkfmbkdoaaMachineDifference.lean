/- MachineDifference returns true for any two numbers, and leaves what came in as it was. No condition. -/
import Derived.Test.YtlapmbkfmbkdoaaT
import Derived.Test.YtlapmbkfmbkdoaaFj
namespace Go.Proofs.Ytlapmbkfmbkdoaa
open Go.Fw Go.ChangeShapes Go.WideShapes Go.ChangeAt Go.RowKit
open Go.ChangeMaps (open_string shut_string)
set_option linter.unusedVariables false

theorem machineDifference_own : ownKnob Try.prog.godebug = none := by kernel_rfl
theorem machineDifference_laidOut : laidOutB Try.prog = true := by kernel_rfl

set_option maxRecDepth 100000 in
theorem machineDifference_lifted (os : Os) (started : os.Started) (H : Type) (enc : TypeId × Value → H) :
    ReturnsInHanded {} Try.checked os 10 .any (Rows.machineDifferenceSpec.pre6 enc Try.prog Try.f10 Rows.machineDifferenceRow.domain false) (Rows.machineDifferenceSpec.post enc Try.prog Try.f10 false true false false) := by
  refine returnsInHanded_of_change (C := Try.checked) machineDifference_own started (by kernel_rfl) Try.func10
    (ChangeSpec.witness6 (enc := enc) (C := Try.checked) false ⟨#[], #[.agg #[.int .u64 0, .int .u64 0, .int .u64 0, .int .u64 0], .agg #[.int .u64 0, .int .u64 0, .int .u64 0, .int .u64 0]], []⟩ 8 (by kernel_rfl) (by kernel_rfl) (by kernel_rfl) (by kernel_rfl)) ?_
  intro W base args ds gs before hval0 hW hcnd _
  have hval : ∀ (j : Nat) t v, Try.f10.params[j]? = some t → args[j]? = some v → Value.okWide Try.prog W .any base t v := hval0
  have hW' := hW
  obtain ⟨p, q, hA0, hV, rfl, hfz, hnd⟩ := hW
  have hA : DataW.TrodAll enc Try.prog W 0 (fun _ => true) true Try.f10.params.toList args.toList ds p := hA0
  rw [Try.params10] at hA hval
  obtain ⟨v0, vs0, d0, ds0, p0, q0, hargs, rfl, rfl, h0, r0⟩ := trodAll_cons hA
  obtain ⟨v1, vs1, d1, ds1, p1, q1, rfl, rfl, rfl, h1, r1⟩ := trodAll_cons r0
  obtain ⟨rfl, rfl, rfl⟩ := trodAll_nil r1
  obtain rfl : args = #[v0, v1] := by cases args; simp_all
  obtain ⟨rfl, rfl⟩ := trodVars_none hV
  have k0 := h0
  have lt0 : ∀ x ∈ p0, x.block < W.heap.size := by obtain ⟨m, hm⟩ := k0; exact DataW.trod_lt m _ _ _ hm
  have k1 := h1
  have lt1 : ∀ x ∈ p1, x.block < W.heap.size := by obtain ⟨m, hm⟩ := k1; exact DataW.trod_lt m _ _ _ hm
  obtain ⟨cs0, rfl, _, _⟩ : ∃ cs, v0 = .agg cs ∧ cs.size = Try.prog.cellsOf 31 ∧ Row.okWide Try.prog W .any base 31 cs := by
    have := hval 0 31 v0 rfl rfl
    simpa [Value.okWide, Try.underlying31] using this
  obtain ⟨fuel0, hf0⟩ := h0
  obtain ⟨x0, hx0, hcs0⟩ := open_wide hf0
  obtain rfl : cs0 = (wc x0).toArray := by
    apply Array.toList_inj.1; simpa [Value.cells] using hcs0
  obtain ⟨cs1, rfl, _, _⟩ : ∃ cs, v1 = .agg cs ∧ cs.size = Try.prog.cellsOf 31 ∧ Row.okWide Try.prog W .any base 31 cs := by
    have := hval 1 31 v1 rfl rfl
    simpa [Value.okWide, Try.underlying31] using this
  obtain ⟨fuel1, hf1⟩ := h1
  obtain ⟨x1, hx1, hcs1⟩ := open_wide hf1
  obtain rfl : cs1 = (wc x1).toArray := by
    apply Array.toList_inj.1; simpa [Value.cells] using hcs1
  clear hA0 hval0
  refine Calls.mono (difference_calls x0 x1 W hx0 hx1) fun e W' ⟨v, s, he, ⟨hv, hs⟩, hS⟩ => ?_
  subst he hv
  have bel := hS.below
  exact ⟨_, rfl, _, _, _, [], _, [], hW', trodAll_mk1 (shut_bool Try.underlying4 _), (trodAll_cons_mk (Below.trod machineDifference_laidOut (by kernel_rfl) (of_decide_eq_true (by kernel_rfl)) k0 bel lt0) (trodAll_cons_mk (Below.trod machineDifference_laidOut (by kernel_rfl) (of_decide_eq_true (by kernel_rfl)) k1 bel lt1) trodAll_mk0)), rfl, bel.frame _, fun h => by cases h⟩

theorem machineDifference_over : Rows.machineDifferenceRow.holds Try.pinned (OpenSpec.ofChange Rows.machineDifferenceSpec) :=
  OpenClaim.holds_of_wide 10 Try.f10 rfl rfl rfl rfl rfl rfl rfl ⟨rfl, rfl, rfl, rfl, rfl⟩ rfl rfl rfl rfl rfl (by kernel_rfl) Try.func10 (by kernel_rfl)
    (of_decide_eq_true (by kernel_rfl)) (by unfold Func.isWrapper; first | (rw [if_pos (by decide +kernel)]; kernel_rfl) | (rw [if_neg (by decide +kernel)]; exact ⟨rfl, rfl⟩))
    (fun os started H enc _ => machineDifference_lifted os started H enc)

theorem machineDifference_holds : Rows.MachineDifferenceSaid := machineDifference_over
end Go.Proofs.Ytlapmbkfmbkdoaa
