/- How lists that come in read, and how much they weigh. No condition beyond each lemma's own. -/
import Derived.Test.YthgecfjpacebeaaT
import Derived.Test.YthgecfjpacebeaaCd
import Derived.SizedLaws
namespace Go.Fw
open Go.RowKit
theorem slice_weight {H : Type} {enc : TypeId × Value → H} {P : Program} {w : World} {base fuel : Nat} {held : Bool} {t e : TypeId} {A : Option Addr} {len cap j : Nat} {d : DataW H} {p : List MemPlace} {ts : List TypeId} {ds : List (DataW H)}
    (hsz : (DataW.weightsEach P ts ds).all (· ≤ reachBytes) = true) (ht : ts[j]? = some t) (hd : ds[j]? = some d) (hu : P.underlying t = some (.slice e)) (h : DataW.trod enc P w base (fun _ => true) held fuel t [.slice A len cap] = some (d, p)) : cap * P.bytesOf e ≤ reachBytes := by
  rcases Deep.open_slice hu h with ⟨hcs, _⟩ | ⟨a, len', cap', m, k, D, Pl, hcs, _, hl, _, hmm, hx, _⟩
  · simp only [List.cons.injEq, Value.slice.injEq, and_true] at hcs
    obtain ⟨_, _, rfl⟩ := hcs
    rw [Nat.zero_mul]; exact Nat.zero_le _
  · simp only [List.cons.injEq, Value.slice.injEq, and_true] at hcs
    obtain ⟨rfl, rfl, rfl⟩ := hcs
    simp only [if_true] at hmm
    subst hmm
    obtain ⟨rfl, _⟩ := Prod.mk.inj hx
    have := sized_slice hsz ht hd hu
    simp only [List.length_map, List.length_range] at this
    rwa [show len + (m - len) = m by omega] at this
theorem wides_of : ∀ els : List (List Value), (∀ l ∈ els, (∃ n : Nat, n < 115792089237316195423570985008687907853269984665640564039457584007913129639936 ∧ l = wc n) ∧ l.length = 4) → ∃ ps : List Nat, ps.length = els.length ∧ AllW ps ∧ els.flatten = ps.flatMap wc
  | [], _ => ⟨[], rfl, by intro x hx; simp at hx, rfl⟩
  | l :: els, h => by
    obtain ⟨ps, h1, h2, h3⟩ := wides_of els fun l hl => h l (by simp [hl])
    obtain ⟨⟨p, hp, rfl⟩, _⟩ := h l (by simp)
    refine ⟨p :: ps, by simp [h1], ?_, by rw [List.flatten_cons, h3, List.flatMap_cons]⟩
    intro q hq
    rcases List.mem_cons.1 hq with rfl | hq
    · exact hp
    · exact h2 q hq
theorem byts_of : ∀ els : List (List Value), (∀ l ∈ els, (∃ n : Nat, n < 256 ∧ l = [.int .u8 (n : Int)]) ∧ l.length = 1) → ∃ ps : List Nat, ps.length = els.length ∧ Byt ps ∧ els.flatten = byts ps
  | [], _ => ⟨[], rfl, by intro x hx; simp at hx, rfl⟩
  | l :: els, h => by
    obtain ⟨ps, h1, h2, h3⟩ := byts_of els fun l hl => h l (by simp [hl])
    obtain ⟨⟨p, hp, rfl⟩, _⟩ := h l (by simp)
    refine ⟨p :: ps, by simp [h1], ?_, by rw [List.flatten_cons, h3]; rfl⟩
    intro q hq
    rcases List.mem_cons.1 hq with rfl | hq
    · exact hp
    · exact h2 q hq
end Go.Fw
namespace Go.Proofs.Ythgecfjpacebeaa
open Go Go.Fw Go.ChangeShapes Go.RowKit
theorem ce5 : Try.prog.cellsOf 5 = 1 := by kernel_rfl
theorem bytes29 : Try.prog.bytesOf 29 = 32 := by kernel_rfl
theorem bytes5 : Try.prog.bytesOf 5 = 1 := by kernel_rfl
section
variable {H : Type} {enc : TypeId × Value → H} {w : World} {base fuel : Nat} {spare : Nat → Bool} {held : Bool} {cs : List Value} {x : DataW H × List MemPlace}
theorem open_wides {A : Option Addr} {len cap : Nat} (h : DataW.trod enc Try.prog w base spare held fuel 26 [.slice A len cap] = some x) : ∃ l : List Nat, l.length = len ∧ AllW l ∧ Rd w A (l.flatMap wc) ∧ len ≤ cap ∧ cap ≤ 9223372036854775807 := by
  obtain ⟨h1, h2, els, h3, h4, h5⟩ := open_rd (n := 4) (Pp := fun l => ∃ n : Nat, n < 115792089237316195423570985008687907853269984665640564039457584007913129639936 ∧ l = wc n) Try.underlying26 ce29 (fun fuel cs x h => by
    obtain ⟨n, hn, rfl⟩ := open_wide h
    exact ⟨⟨n, hn, rfl⟩, rfl⟩) h
  obtain ⟨ps, g1, g2, g3⟩ := wides_of els h4
  exact ⟨ps, by rw [g1, h3], g2, g3 ▸ h5, h1, Nat.le_trans h2 (by decide)⟩
theorem open_byteL {A : Option Addr} {len cap : Nat} (h : DataW.trod enc Try.prog w base spare held fuel 82 [.slice A len cap] = some x) : ∃ xs : List Nat, xs.length = len ∧ Byt xs ∧ Rd w A (byts xs) ∧ len ≤ cap ∧ cap ≤ 9223372036854775807 := by
  obtain ⟨h1, h2, els, h3, h4, h5⟩ := open_rd (n := 1) (Pp := fun l => ∃ n : Nat, n < 256 ∧ l = [.int .u8 (n : Int)]) Try.underlying82 ce5 (fun fuel cs x h => by
    obtain ⟨n0, rfl, _, w0⟩ := DataW.trod_int Try.underlying5 h
    have hb : 0 ≤ n0 ∧ n0 ≤ 255 := by
      simp only [Lit.wf, Bool.and_eq_true, decide_eq_true_eq] at w0
      have h1 : IntKind.u8.min = 0 := rfl
      have h2 : IntKind.u8.max = 255 := rfl
      omega
    refine ⟨⟨n0.toNat, by omega, ?_⟩, rfl⟩
    rw [Int.toNat_of_nonneg hb.1]) h
  obtain ⟨ps, g1, g2, g3⟩ := byts_of els h4
  exact ⟨ps, by rw [g1, h3], g2, g3 ▸ h5, h1, Nat.le_trans h2 (by decide)⟩
theorem len_14 {α : Type} {l : List α} (h : l.length = 14) : ∃ a0 a1 a2 a3 a4 a5 a6 a7 a8 a9 b0 b1 b2 b3, l = [a0, a1, a2, a3, a4, a5, a6, a7, a8, a9, b0, b1, b2, b3] := by
  match l, h with
  | [a0, a1, a2, a3, a4, a5, a6, a7, a8, a9, b0, b1, b2, b3], _ => exact ⟨_, _, _, _, _, _, _, _, _, _, _, _, _, _, rfl⟩
theorem ce91 : Try.prog.cellsOf 91 = 14 := by kernel_rfl
theorem ce82 : Try.prog.cellsOf 82 = 1 := by kernel_rfl
theorem ce9 : Try.prog.cellsOf 9 = 1 := by kernel_rfl
theorem open_things (h : DataW.trod enc Try.prog w base spare held fuel 91 cs = some x) : ∃ (m n q : Nat) (A : Option Addr) (k c : Nat) (xs : List Nat) (s : ByteArray), m < 115792089237316195423570985008687907853269984665640564039457584007913129639936 ∧ n < 115792089237316195423570985008687907853269984665640564039457584007913129639936 ∧ q < 115792089237316195423570985008687907853269984665640564039457584007913129639936 ∧
    cs = wc m ++ wc n ++ wc q ++ [.slice A k c, .string s] ∧ xs.length = k ∧ Byt xs ∧ Rd w A (byts xs) := by
  obtain ⟨hl, f, g⟩ := trod_fields Try.underlying91 h
  rw [ce91] at hl
  obtain ⟨a0, a1, a2, a3, a4, a5, a6, a7, a8, a9, b0, b1, b2, b3, rfl⟩ := len_14 hl
  focus
    obtain ⟨y0, g0⟩ := g 0 _ 29 0 rfl rfl rfl
    obtain ⟨y1, g1⟩ := g 1 _ 29 4 rfl rfl rfl
    obtain ⟨y2, g2⟩ := g 2 _ 29 8 rfl rfl rfl
    obtain ⟨y3, g3⟩ := g 3 _ 82 12 rfl rfl rfl
    obtain ⟨y4, g4⟩ := g 4 _ 9 13 rfl rfl rfl
    obtain ⟨m, hm, e0⟩ := open_wide g0
    obtain ⟨n, hn, e1⟩ := open_wide g1
    obtain ⟨q, hq, e2⟩ := open_wide g2
    simp only [ce29, ce82, ce9, List.drop_zero, List.drop_succ_cons, List.take_succ_cons, List.take_zero, List.cons.injEq, and_true] at e0 e1 e2 g3 g4
    obtain ⟨rfl, rfl, rfl, rfl⟩ := e0
    obtain ⟨rfl, rfl, rfl, rfl⟩ := e1
    obtain ⟨rfl, rfl, rfl, rfl⟩ := e2
    obtain ⟨s, es, _⟩ := DataW.trod_string Try.underlying9 g4
    simp only [List.cons.injEq, and_true] at es
    subst es
    have hb : ∃ A k c, b2 = .slice A k c := by
      rcases Deep.open_slice Try.underlying82 g3 with ⟨e3, _⟩ | ⟨a', l', c', _, _, _, _, e3, _⟩
      · simp only [List.cons.injEq, and_true] at e3; exact ⟨_, _, _, e3⟩
      · simp only [List.cons.injEq, and_true] at e3; exact ⟨_, _, _, e3⟩
    obtain ⟨A, k, c, rfl⟩ := hb
    obtain ⟨xs, h1, h2, h3, _, _⟩ := open_byteL g3
    exact ⟨m, n, q, A, k, c, xs, s, hm, hn, hq, rfl, h1, h2, h3⟩
end
end Go.Proofs.Ythgecfjpacebeaa
