/- How what comes in reads: steps of a script, gifts, lists of these. No condition beyond each lemma's own. -/
import Derived.Test.YthgecfjpacebeaaV
import Derived.Test.YthgecfjpacebeaaT
namespace Go.Fw
theorem wf_i64 {n : Int} (h : (Lit.int .i64 n).wf = true) : i64OK n := by
  have := bounds_i64 h; unfold i64OK; omega
end Go.Fw
namespace Go.Proofs.Ythgecfjpacebeaa
open Go Go.Fw Go.ChangeShapes Go.RowKit
theorem ce34 : Try.prog.cellsOf 34 = 8 := by kernel_rfl
theorem ce49 : Try.prog.cellsOf 49 = 10 := by kernel_rfl
section
variable {H : Type} {enc : TypeId × Value → H} {w : World} {base fuel : Nat} {spare : Nat → Bool} {held : Bool} {cs : List Value} {x : DataW H × List MemPlace}
theorem open_step (h : DataW.trod enc Try.prog w base spare held fuel 34 cs = some x) : ∃ p : Stp, p.ok ∧ cs = stpL p := by
  obtain ⟨hl, m, g⟩ := trod_fields Try.underlying34 h
  rw [ce34] at hl
  obtain ⟨a, b, c, d, e0, e1, e2, e3, rfl⟩ := len_8 hl
  focus
    obtain ⟨y0, g0⟩ := g 0 _ 3 0 rfl rfl rfl
    obtain ⟨y1, g1⟩ := g 1 _ 3 1 rfl rfl rfl
    obtain ⟨y2, g2⟩ := g 2 _ 3 2 rfl rfl rfl
    obtain ⟨y3, g3⟩ := g 3 _ 3 3 rfl rfl rfl
    obtain ⟨y4, g4⟩ := g 4 _ 29 4 rfl rfl rfl
    obtain ⟨n0, e0', _, w0⟩ := DataW.trod_int Try.underlying3 g0
    obtain ⟨n1, e1', _, w1⟩ := DataW.trod_int Try.underlying3 g1
    obtain ⟨n2, e2', _, w2⟩ := DataW.trod_int Try.underlying3 g2
    obtain ⟨n3, e3', _, w3⟩ := DataW.trod_int Try.underlying3 g3
    obtain ⟨n4, w4, e4'⟩ := open_wide g4
    simp only [ce3, ce29, List.drop_zero, List.drop_succ_cons, List.take_succ_cons, List.take_zero, List.cons.injEq, and_true] at e0' e1' e2' e3' e4'
    subst e0' e1' e2' e3'
    obtain ⟨rfl, rfl, rfl, rfl⟩ := e4'
    exact ⟨⟨n0, n1, n2, n3, n4⟩, ⟨wf_i64 w0, wf_i64 w1, wf_i64 w2, wf_i64 w3, w4⟩, rfl⟩
theorem open_gift (h : DataW.trod enc Try.prog w base spare held fuel 49 cs = some x) : ∃ (tok idx : Int) (a b : Nat), i64OK tok ∧ i64OK idx ∧ a < 115792089237316195423570985008687907853269984665640564039457584007913129639936 ∧ b < 115792089237316195423570985008687907853269984665640564039457584007913129639936 ∧ cs = .int .i64 tok :: .int .i64 idx :: (wc a ++ wc b) := by
  obtain ⟨hl, m, g⟩ := trod_fields Try.underlying49 h
  rw [ce49] at hl
  obtain ⟨a, b, c0, c1, c2, c3, e0, e1, e2, e3, rfl⟩ := len_10 hl
  focus
    obtain ⟨y0, g0⟩ := g 0 _ 3 0 rfl rfl rfl
    obtain ⟨y1, g1⟩ := g 1 _ 3 1 rfl rfl rfl
    obtain ⟨y2, g2⟩ := g 2 _ 29 2 rfl rfl rfl
    obtain ⟨y3, g3⟩ := g 3 _ 29 6 rfl rfl rfl
    obtain ⟨n0, e0', _, w0⟩ := DataW.trod_int Try.underlying3 g0
    obtain ⟨n1, e1', _, w1⟩ := DataW.trod_int Try.underlying3 g1
    obtain ⟨n2, w2, e2'⟩ := open_wide g2
    obtain ⟨n3, w3, e3'⟩ := open_wide g3
    simp only [ce3, ce29, List.drop_zero, List.drop_succ_cons, List.take_succ_cons, List.take_zero, List.cons.injEq, and_true] at e0' e1' e2' e3'
    subst e0' e1'
    obtain ⟨rfl, rfl, rfl, rfl⟩ := e2'
    obtain ⟨rfl, rfl, rfl, rfl⟩ := e3'
    exact ⟨n0, n1, n2, n3, wf_i64 w0, wf_i64 w1, w2, w3, rfl⟩
theorem steps_of : ∀ els : List (List Value), (∀ l ∈ els, (∃ p : Stp, p.ok ∧ l = stpL p) ∧ l.length = 8) → ∃ ps : List Stp, ps.length = els.length ∧ (∀ p ∈ ps, p.ok) ∧ els.flatten = ps.flatMap stpL
  | [], _ => ⟨[], rfl, by simp, rfl⟩
  | l :: els, h => by
    obtain ⟨ps, h1, h2, h3⟩ := steps_of els fun l hl => h l (by simp [hl])
    obtain ⟨⟨p, hp, rfl⟩, _⟩ := h l (by simp)
    refine ⟨p :: ps, by simp [h1], ?_, by rw [List.flatten_cons, h3, List.flatMap_cons]⟩
    intro q hq
    rcases List.mem_cons.1 hq with rfl | hq
    · exact hp
    · exact h2 q hq
theorem open_steps {A : Option Addr} {len cap : Nat} (h : DataW.trod enc Try.prog w base spare held fuel 22 [.slice A len cap] = some x) : ∃ ps : List Stp, len = ps.length ∧ (∀ p ∈ ps, p.ok) ∧ Rd w A (ps.flatMap stpL) ∧ len ≤ cap ∧ cap ≤ 9223372036854775807 := by
  obtain ⟨h1, h2, els, h3, h4, h5⟩ := open_rd (n := 8) (Pp := fun l => ∃ p : Stp, p.ok ∧ l = stpL p) Try.underlying22 ce34 (fun fuel cs x h => by
    obtain ⟨p, hp, rfl⟩ := open_step h
    exact ⟨⟨p, hp, rfl⟩, rfl⟩) h
  obtain ⟨ps, g1, g2, g3⟩ := steps_of els h4
  exact ⟨ps, by rw [g1, h3], g2, g3 ▸ h5, h1, Nat.le_trans h2 (by decide)⟩
end
end Go.Proofs.Ythgecfjpacebeaa
