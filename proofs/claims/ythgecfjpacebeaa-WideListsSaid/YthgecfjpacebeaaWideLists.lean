/- WideLists returns true for any two lists, and leaves what came in as it was. No condition. -/
import Derived.Test.YthgecfjpacebeaaTa
import Derived.Test.YthgecfjpacebeaaWE
namespace Go.Proofs.Ythgecfjpacebeaa
open Go.Fw Go.ChangeShapes Go.WideShapes Go.ChangeAt Go.RowKit
open Go.ChangeMaps (open_string shut_string)
set_option linter.unusedVariables false

theorem wideLists_own : ownKnob Try.prog.godebug = none := by kernel_rfl
theorem wideLists_laidOut : laidOutB Try.prog = true := by kernel_rfl

set_option maxRecDepth 100000 in
theorem wideLists_lifted (os : Os) (started : os.Started) (H : Type) (enc : TypeId × Value → H) :
    ReturnsInHanded {} Try.checked os 14 .any (Rows.wideListsSpec.pre6 enc Try.prog Try.f14 Rows.wideListsRow.domain false) (Rows.wideListsSpec.post enc Try.prog Try.f14 false true false false) := by
  refine returnsInHanded_of_change_sized (C := Try.checked) wideLists_own started (by kernel_rfl) Try.func14
    (ChangeSpec.witness6 (enc := enc) (C := Try.checked) false ⟨#[], #[.slice none 0 0, .slice none 0 0], []⟩ 8 (by kernel_rfl) (by kernel_rfl) (by kernel_rfl) (by kernel_rfl)) ?_
  intro W base args ds gs before hval0 hW hcnd hsz0 _
  have hval : ∀ (j : Nat) t v, Try.f14.params[j]? = some t → args[j]? = some v → Value.okWide Try.prog W .any base t v := hval0
  have hW' := hW
  obtain ⟨p, q, hA0, hV, rfl, hfz, hnd⟩ := hW
  have hA : DataW.TrodAll enc Try.prog W 0 (fun _ => true) true Try.f14.params.toList args.toList ds p := hA0
  rw [Try.params14] at hA hval
  obtain ⟨v0, vs0, d0, ds0, p0, q0, hargs, rfl, rfl, h0, r0⟩ := trodAll_cons hA
  obtain ⟨v1, vs1, d1, ds1, p1, q1, rfl, rfl, rfl, h1, r1⟩ := trodAll_cons r0
  obtain ⟨rfl, rfl, rfl⟩ := trodAll_nil r1
  obtain rfl : args = #[v0, v1] := by cases args; simp_all
  obtain ⟨rfl, rfl⟩ := trodVars_none hV
  have hsz : (DataW.weightsEach Try.prog (Try.f14.params.toList ++ Rows.wideListsSpec.plain.varTypes Try.prog) ([d0, d1] ++ [])).all (· ≤ reachBytes) = true := hsz0
  rw [Try.params14] at hsz
  have k0 := h0
  have lt0 : ∀ x ∈ p0, x.block < W.heap.size := by obtain ⟨m, hm⟩ := k0; exact DataW.trod_lt m _ _ _ hm
  have k1 := h1
  have lt1 : ∀ x ∈ p1, x.block < W.heap.size := by obtain ⟨m, hm⟩ := k1; exact DataW.trod_lt m _ _ _ hm
  obtain ⟨A0, len0, cap0, rfl⟩ := okWide_slice Try.underlying26 (hval 0 26 v0 rfl rfl)
  obtain ⟨fuel0, hf0⟩ := h0
  have hw0 := slice_weight (j := 0) (A := A0) (len := len0) (cap := cap0) hsz rfl rfl Try.underlying26 (by simpa [Value.cells] using hf0)
  rw [bytes29, show reachBytes = 140737488351232 from rfl] at hw0
  obtain ⟨l0, hn0, hW0, hR0, hc0, hm0⟩ := open_wides (A := A0) (len := len0) (cap := cap0) (by simpa [Value.cells] using hf0)
  obtain ⟨A1, len1, cap1, rfl⟩ := okWide_slice Try.underlying26 (hval 1 26 v1 rfl rfl)
  obtain ⟨fuel1, hf1⟩ := h1
  have hw1 := slice_weight (j := 1) (A := A1) (len := len1) (cap := cap1) hsz rfl rfl Try.underlying26 (by simpa [Value.cells] using hf1)
  rw [bytes29, show reachBytes = 140737488351232 from rfl] at hw1
  obtain ⟨l1, hn1, hW1, hR1, hc1, hm1⟩ := open_wides (A := A1) (len := len1) (cap := cap1) (by simpa [Value.cells] using hf1)
  clear hA0 hval0
  subst hn0 hn1
  refine (wideLists_calls A0 A1 cap0 cap1 l0 l1 W hR0 hR1 hc0 hW0 hW1 (by omega)).mono fun e W' ⟨v, s, he, ⟨hv, hs⟩, hS⟩ => ?_
  subst he hv
  have bel := hS.below
  exact ⟨_, rfl, _, _, _, [], _, [], hW', trodAll_mk1 (shut_bool Try.underlying4 _), (trodAll_cons_mk (Below.trod wideLists_laidOut (by kernel_rfl) (of_decide_eq_true (by kernel_rfl)) k0 bel lt0) (trodAll_cons_mk (Below.trod wideLists_laidOut (by kernel_rfl) (of_decide_eq_true (by kernel_rfl)) k1 bel lt1) trodAll_mk0)), rfl, bel.frame _, fun h => by cases h⟩

theorem wideLists_over : Rows.wideListsRow.holds Try.pinned (OpenSpec.ofChange Rows.wideListsSpec) :=
  OpenClaim.holds_of_wide 14 Try.f14 rfl rfl rfl rfl rfl rfl rfl ⟨rfl, rfl, rfl, rfl, rfl⟩ rfl rfl rfl rfl rfl (by kernel_rfl) Try.func14 (by kernel_rfl)
    (of_decide_eq_true (by kernel_rfl)) (by unfold Func.isWrapper; first | (rw [if_pos (by decide +kernel)]; kernel_rfl) | (rw [if_neg (by decide +kernel)]; exact ⟨rfl, rfl⟩))
    (fun os started H enc _ => wideLists_lifted os started H enc)

theorem wideLists_holds : Rows.WideListsSaid := wideLists_over
end Go.Proofs.Ythgecfjpacebeaa
