/- How lists that come in read, and how much they weigh. No condition beyond each lemma's own. -/
import Derived.Test.YtlapmbkfmbkdoaaT
import Derived.Test.YtlapmbkfmbkdoaaM4
namespace Go.Fw
open Go.RowKit
theorem wides_of : ∀ els : List (List Value), (∀ l ∈ els, (∃ n : Nat, n < 115792089237316195423570985008687907853269984665640564039457584007913129639936 ∧ l = wc n) ∧ l.length = 4) → ∃ ps : List Nat, ps.length = els.length ∧ AllW ps ∧ els.flatten = ps.flatMap wc
  | [], _ => ⟨[], rfl, by intro x hx; simp at hx, rfl⟩
  | l :: els, h => by
    obtain ⟨ps, h1, h2, h3⟩ := wides_of els fun l hl => h l (by simp [hl])
    obtain ⟨⟨p, hp, rfl⟩, _⟩ := h l (by simp)
    refine ⟨p :: ps, by simp [h1], ?_, by rw [List.flatten_cons, h3, List.flatMap_cons]⟩
    intro q hq
    rcases List.mem_cons.1 hq with rfl | hq
    · exact hp
    · exact h2 q hq
theorem byts_of : ∀ els : List (List Value), (∀ l ∈ els, (∃ n : Nat, n < 256 ∧ l = [.int .u8 (n : Int)]) ∧ l.length = 1) → ∃ ps : List Nat, ps.length = els.length ∧ Byt ps ∧ els.flatten = byts ps
  | [], _ => ⟨[], rfl, by intro x hx; simp at hx, rfl⟩
  | l :: els, h => by
    obtain ⟨ps, h1, h2, h3⟩ := byts_of els fun l hl => h l (by simp [hl])
    obtain ⟨⟨p, hp, rfl⟩, _⟩ := h l (by simp)
    refine ⟨p :: ps, by simp [h1], ?_, by rw [List.flatten_cons, h3]; rfl⟩
    intro q hq
    rcases List.mem_cons.1 hq with rfl | hq
    · exact hp
    · exact h2 q hq
end Go.Fw
namespace Go.Proofs.Ytlapmbkfmbkdoaa
open Go Go.Fw Go.ChangeShapes Go.RowKit
theorem ce5 : Try.prog.cellsOf 5 = 1 := by kernel_rfl
theorem bytes31 : Try.prog.bytesOf 31 = 32 := by kernel_rfl
theorem bytes5 : Try.prog.bytesOf 5 = 1 := by kernel_rfl
section
variable {H : Type} {enc : TypeId × Value → H} {w : World} {base fuel : Nat} {spare : Nat → Bool} {held : Bool} {cs : List Value} {x : DataW H × List MemPlace}
theorem open_wides {A : Option Addr} {len cap : Nat} (h : DataW.trod enc Try.prog w base spare held fuel 32 [.slice A len cap] = some x) : ∃ l : List Nat, l.length = len ∧ AllW l ∧ Rd w A (l.flatMap wc) ∧ len ≤ cap ∧ cap ≤ 9223372036854775807 := by
  obtain ⟨h1, h2, els, h3, h4, h5⟩ := open_rd (n := 4) (Pp := fun l => ∃ n : Nat, n < 115792089237316195423570985008687907853269984665640564039457584007913129639936 ∧ l = wc n) Try.underlying32 ce31 (fun fuel cs x h => by
    obtain ⟨n, hn, rfl⟩ := open_wide h
    exact ⟨⟨n, hn, rfl⟩, rfl⟩) h
  obtain ⟨ps, g1, g2, g3⟩ := wides_of els h4
  exact ⟨ps, by rw [g1, h3], g2, g3 ▸ h5, h1, Nat.le_trans h2 (by decide)⟩
theorem open_byteL {A : Option Addr} {len cap : Nat} (h : DataW.trod enc Try.prog w base spare held fuel 23 [.slice A len cap] = some x) : ∃ xs : List Nat, xs.length = len ∧ Byt xs ∧ Rd w A (byts xs) ∧ len ≤ cap ∧ cap ≤ 9223372036854775807 := by
  obtain ⟨h1, h2, els, h3, h4, h5⟩ := open_rd (n := 1) (Pp := fun l => ∃ n : Nat, n < 256 ∧ l = [.int .u8 (n : Int)]) Try.underlying23 ce5 (fun fuel cs x h => by
    obtain ⟨n0, rfl, _, w0⟩ := DataW.trod_int Try.underlying5 h
    have hb : 0 ≤ n0 ∧ n0 ≤ 255 := by
      simp only [Lit.wf, Bool.and_eq_true, decide_eq_true_eq] at w0
      have h1 : IntKind.u8.min = 0 := rfl
      have h2 : IntKind.u8.max = 255 := rfl
      omega
    refine ⟨⟨n0.toNat, by omega, ?_⟩, rfl⟩
    rw [Int.toNat_of_nonneg hb.1]) h
  obtain ⟨ps, g1, g2, g3⟩ := byts_of els h4
  exact ⟨ps, by rw [g1, h3], g2, g3 ▸ h5, h1, Nat.le_trans h2 (by decide)⟩
theorem len_14 {α : Type} {l : List α} (h : l.length = 14) : ∃ a0 a1 a2 a3 a4 a5 a6 a7 a8 a9 b0 b1 b2 b3, l = [a0, a1, a2, a3, a4, a5, a6, a7, a8, a9, b0, b1, b2, b3] := by
  match l, h with
  | [a0, a1, a2, a3, a4, a5, a6, a7, a8, a9, b0, b1, b2, b3], _ => exact ⟨_, _, _, _, _, _, _, _, _, _, _, _, _, _, rfl⟩
theorem ce23 : Try.prog.cellsOf 23 = 1 := by kernel_rfl
theorem ce9 : Try.prog.cellsOf 9 = 1 := by kernel_rfl
end
end Go.Proofs.Ytlapmbkfmbkdoaa
