/- WideBytes returns true for any two numbers and any bytes, and leaves what came in as it was. No condition. -/
import Derived.Test.YthgecfjpacebeaaTa
import Derived.Test.YthgecfjpacebeaaWG
namespace Go.Proofs.Ythgecfjpacebeaa
open Go.Fw Go.ChangeShapes Go.WideShapes Go.ChangeAt Go.RowKit
open Go.ChangeMaps (open_string shut_string)
set_option linter.unusedVariables false

theorem wideBytes_own : ownKnob Try.prog.godebug = none := by kernel_rfl
theorem wideBytes_laidOut : laidOutB Try.prog = true := by kernel_rfl

set_option maxRecDepth 100000 in
theorem wideBytes_lifted (os : Os) (started : os.Started) (H : Type) (enc : TypeId × Value → H) :
    ReturnsInHanded {} Try.checked os 16 .any (Rows.wideBytesSpec.pre6 enc Try.prog Try.f16 Rows.wideBytesRow.domain false) (Rows.wideBytesSpec.post enc Try.prog Try.f16 false true false false) := by
  refine returnsInHanded_of_change_sized (C := Try.checked) wideBytes_own started (by kernel_rfl) Try.func16
    (ChangeSpec.witness6 (enc := enc) (C := Try.checked) false ⟨#[], #[.agg #[.int .u64 0, .int .u64 0, .int .u64 0, .int .u64 0], .agg #[.int .u64 0, .int .u64 0, .int .u64 0, .int .u64 0], .slice none 0 0], []⟩ 8 (by kernel_rfl) (by kernel_rfl) (by kernel_rfl) (by kernel_rfl)) ?_
  intro W base args ds gs before hval0 hW hcnd hsz0 _
  have hval : ∀ (j : Nat) t v, Try.f16.params[j]? = some t → args[j]? = some v → Value.okWide Try.prog W .any base t v := hval0
  have hW' := hW
  obtain ⟨p, q, hA0, hV, rfl, hfz, hnd⟩ := hW
  have hA : DataW.TrodAll enc Try.prog W 0 (fun _ => true) true Try.f16.params.toList args.toList ds p := hA0
  rw [Try.params16] at hA hval
  obtain ⟨v0, vs0, d0, ds0, p0, q0, hargs, rfl, rfl, h0, r0⟩ := trodAll_cons hA
  obtain ⟨v1, vs1, d1, ds1, p1, q1, rfl, rfl, rfl, h1, r1⟩ := trodAll_cons r0
  obtain ⟨v2, vs2, d2, ds2, p2, q2, rfl, rfl, rfl, h2, r2⟩ := trodAll_cons r1
  obtain ⟨rfl, rfl, rfl⟩ := trodAll_nil r2
  obtain rfl : args = #[v0, v1, v2] := by cases args; simp_all
  obtain ⟨rfl, rfl⟩ := trodVars_none hV
  have hsz : (DataW.weightsEach Try.prog (Try.f16.params.toList ++ Rows.wideBytesSpec.plain.varTypes Try.prog) ([d0, d1, d2] ++ [])).all (· ≤ reachBytes) = true := hsz0
  rw [Try.params16] at hsz
  have k0 := h0
  have lt0 : ∀ x ∈ p0, x.block < W.heap.size := by obtain ⟨m, hm⟩ := k0; exact DataW.trod_lt m _ _ _ hm
  have k1 := h1
  have lt1 : ∀ x ∈ p1, x.block < W.heap.size := by obtain ⟨m, hm⟩ := k1; exact DataW.trod_lt m _ _ _ hm
  have k2 := h2
  have lt2 : ∀ x ∈ p2, x.block < W.heap.size := by obtain ⟨m, hm⟩ := k2; exact DataW.trod_lt m _ _ _ hm
  obtain ⟨cs0, rfl, _, _⟩ : ∃ cs, v0 = .agg cs ∧ cs.size = Try.prog.cellsOf 29 ∧ Row.okWide Try.prog W .any base 29 cs := by
    have := hval 0 29 v0 rfl rfl
    simpa [Value.okWide, Try.underlying29] using this
  obtain ⟨fuel0, hf0⟩ := h0
  obtain ⟨x0, hx0, hcs0⟩ := open_wide hf0
  obtain rfl : cs0 = (wc x0).toArray := by
    apply Array.toList_inj.1; simpa [Value.cells] using hcs0
  obtain ⟨cs1, rfl, _, _⟩ : ∃ cs, v1 = .agg cs ∧ cs.size = Try.prog.cellsOf 29 ∧ Row.okWide Try.prog W .any base 29 cs := by
    have := hval 1 29 v1 rfl rfl
    simpa [Value.okWide, Try.underlying29] using this
  obtain ⟨fuel1, hf1⟩ := h1
  obtain ⟨x1, hx1, hcs1⟩ := open_wide hf1
  obtain rfl : cs1 = (wc x1).toArray := by
    apply Array.toList_inj.1; simpa [Value.cells] using hcs1
  obtain ⟨A2, len2, cap2, rfl⟩ := okWide_slice Try.underlying82 (hval 2 82 v2 rfl rfl)
  obtain ⟨fuel2, hf2⟩ := h2
  have hw2 := slice_weight (j := 2) (A := A2) (len := len2) (cap := cap2) hsz rfl rfl Try.underlying82 (by simpa [Value.cells] using hf2)
  rw [bytes5, show reachBytes = 140737488351232 from rfl] at hw2
  obtain ⟨l2, hn2, hW2, hR2, hc2, hm2⟩ := open_byteL (A := A2) (len := len2) (cap := cap2) (by simpa [Value.cells] using hf2)
  clear hA0 hval0
  refine (wideBytes_calls x0 x1 A2 len2 cap2 l2 W hR2 hn2 hc2 hW2 (by omega)).mono fun e W' ⟨v, s, he, ⟨hv, hs⟩, hS⟩ => ?_
  subst he hv
  have bel := hS.below
  exact ⟨_, rfl, _, _, _, [], _, [], hW', trodAll_mk1 (shut_bool Try.underlying4 _), (trodAll_cons_mk (Below.trod wideBytes_laidOut (by kernel_rfl) (of_decide_eq_true (by kernel_rfl)) k0 bel lt0) (trodAll_cons_mk (Below.trod wideBytes_laidOut (by kernel_rfl) (of_decide_eq_true (by kernel_rfl)) k1 bel lt1) (trodAll_cons_mk (Below.trod wideBytes_laidOut (by kernel_rfl) (of_decide_eq_true (by kernel_rfl)) k2 bel lt2) trodAll_mk0))), rfl, bel.frame _, fun h => by cases h⟩

theorem wideBytes_over : Rows.wideBytesRow.holds Try.pinned (OpenSpec.ofChange Rows.wideBytesSpec) :=
  OpenClaim.holds_of_wide 16 Try.f16 rfl rfl rfl rfl rfl rfl rfl ⟨rfl, rfl, rfl, rfl, rfl⟩ rfl rfl rfl rfl rfl (by kernel_rfl) Try.func16 (by kernel_rfl)
    (of_decide_eq_true (by kernel_rfl)) (by unfold Func.isWrapper; first | (rw [if_pos (by decide +kernel)]; kernel_rfl) | (rw [if_neg (by decide +kernel)]; exact ⟨rfl, rfl⟩))
    (fun os started H enc _ => wideBytes_lifted os started H enc)

theorem wideBytes_holds : Rows.WideBytesSaid := wideBytes_over
end Go.Proofs.Ythgecfjpacebeaa
