/- How what comes in reads: numbers of 256 bits, lists. No condition beyond each lemma's own. -/
import Derived.Test.YtlapmbkfmbkdoaaR
import Derived.Test.YtlapmbkfmbkdoaaM1
import Derived.SizedLaws
import Derived.WalkKit
import Derived.ProofKit
import Derived.OpenShut
import Derived.ShutString
import Derived.ChangeOld
import Derived.Below
import Derived.Deep.Slices
namespace Go.Fw
open Go.RowKit
section
variable {H : Type} {enc : TypeId × Value → H} {P : Program} {w w' : World} {base fuel : Nat} {spare : Nat → Bool} {held : Bool} {t e : TypeId} {cs : List Value} {x : DataW H × List MemPlace} {bs : List Seg}

theorem len_4 {α : Type} {l : List α} (h : l.length = 4) : ∃ a0 a1 a2 a3, l = [a0, a1, a2, a3] := by
  match l, h with
  | [a0, a1, a2, a3], _ => exact ⟨_, _, _, _, rfl⟩
theorem len_8 {α : Type} {l : List α} (h : l.length = 8) : ∃ a0 a1 a2 a3 a4 a5 a6 a7, l = [a0, a1, a2, a3, a4, a5, a6, a7] := by
  match l, h with
  | [a0, a1, a2, a3, a4, a5, a6, a7], _ => exact ⟨_, _, _, _, _, _, _, _, rfl⟩
theorem len_10 {α : Type} {l : List α} (h : l.length = 10) : ∃ a0 a1 a2 a3 a4 a5 a6 a7 a8 a9, l = [a0, a1, a2, a3, a4, a5, a6, a7, a8, a9] := by
  match l, h with
  | [a0, a1, a2, a3, a4, a5, a6, a7, a8, a9], _ => exact ⟨_, _, _, _, _, _, _, _, _, _, rfl⟩
theorem St.below (h : St w [] bs w') : Below w.heap.size w w' := ⟨h.os, h.tape, h.output, h.size, fun k hk => h.keep k hk (by simp)⟩
theorem wide_of {a b c d : Int} (ha : 0 ≤ a ∧ a ≤ 18446744073709551615) (hb : 0 ≤ b ∧ b ≤ 18446744073709551615) (hc : 0 ≤ c ∧ c ≤ 18446744073709551615) (hd : 0 ≤ d ∧ d ≤ 18446744073709551615) :
    ∃ n : Nat, n < 115792089237316195423570985008687907853269984665640564039457584007913129639936 ∧ [Value.int .u64 a, .int .u64 b, .int .u64 c, .int .u64 d] = wc n := by
  obtain ⟨a, rfl⟩ := Int.eq_ofNat_of_zero_le ha.1
  obtain ⟨b, rfl⟩ := Int.eq_ofNat_of_zero_le hb.1
  obtain ⟨c, rfl⟩ := Int.eq_ofNat_of_zero_le hc.1
  obtain ⟨d, rfl⟩ := Int.eq_ofNat_of_zero_le hd.1
  refine ⟨a + b * 18446744073709551616 + c * 340282366920938463463374607431768211456 + d * 6277101735386680763835789423207666416102355444464034512896, by omega, ?_⟩
  have h0 : dg (a + b * 18446744073709551616 + c * 340282366920938463463374607431768211456 + d * 6277101735386680763835789423207666416102355444464034512896) 0 = a := by rw [dg0]; omega
  have h1 : dg (a + b * 18446744073709551616 + c * 340282366920938463463374607431768211456 + d * 6277101735386680763835789423207666416102355444464034512896) 1 = b := by rw [dg1]; omega
  have h2 : dg (a + b * 18446744073709551616 + c * 340282366920938463463374607431768211456 + d * 6277101735386680763835789423207666416102355444464034512896) 2 = c := by rw [dg2]; omega
  have h3 : dg (a + b * 18446744073709551616 + c * 340282366920938463463374607431768211456 + d * 6277101735386680763835789423207666416102355444464034512896) 3 = d := by rw [dg3]; omega
  simp only [wc, h0, h1, h2, h3]
theorem wf_u64 {n : Int} (h : (Lit.int .u64 n).wf = true) : 0 ≤ n ∧ n ≤ 18446744073709551615 := by
  have := bounds_u64 h; omega
/-- a list's cells, one element behind the other -/
theorem open_rd {n : Nat} {Pp : List Value → Prop} {A : Option Addr} {len cap : Nat} (hT : P.underlying t = some (.slice e)) (hn : P.cellsOf e = n)
    (hop : ∀ fuel cs x, DataW.trod enc P w base spare held fuel e cs = some x → Pp cs ∧ cs.length = n) (h : DataW.trod enc P w base spare held fuel t [.slice A len cap] = some x) :
    len ≤ cap ∧ cap ≤ maxLen ∧ ∃ els : List (List Value), els.length = len ∧ (∀ l ∈ els, Pp l ∧ l.length = n) ∧ Rd w A els.flatten := by
  rcases Deep.open_slice hT h with ⟨hcs, _⟩ | ⟨a, len', cap', m, k, D, Pl, hcs, hb, hl, hm, hmm, _, hx⟩
  · simp only [List.cons.injEq, Value.slice.injEq, and_true] at hcs
    obtain ⟨rfl, rfl, rfl⟩ := hcs
    exact ⟨Nat.le_refl _, Nat.zero_le _, [], rfl, by simp, by simpa using Rd.nil w none⟩
  · simp only [List.cons.injEq, Value.slice.injEq, and_true] at hcs
    obtain ⟨rfl, rfl, rfl⟩ := hcs
    have hle : len ≤ m := by rw [hmm]; split <;> omega
    refine ⟨hl, hm, (List.range len).map fun i => (w.cells? base (a.add (i * P.cellsOf e)) (P.cellsOf e)).getD [], by simp, ?_, ?_⟩
    · intro l hlm
      obtain ⟨i, hi, rfl⟩ := List.mem_map.1 hlm
      obtain ⟨cs', h1, h2⟩ := hx i (Nat.lt_of_lt_of_le (List.mem_range.1 hi) hle)
      rw [h1]
      exact hop _ _ _ h2
    · clear hmm
      have key : ∀ q, q ≤ len → ∀ j v, ((List.range q).map fun i => (w.cells? base (a.add (i * P.cellsOf e)) (P.cellsOf e)).getD []).flatten[j]? = some v → w.cell? (a.add j) = some v := by
        intro q
        induction q with
        | zero => intro _ j v hv; simp at hv
        | succ q ih =>
          intro hq j v hv
          rw [List.range_succ, List.map_append, List.flatten_append] at hv
          have hlen : ∀ r, r ≤ len → ((List.range r).map fun i => (w.cells? base (a.add (i * P.cellsOf e)) (P.cellsOf e)).getD []).flatten.length = r * P.cellsOf e := by
            intro r
            induction r with
            | zero => simp
            | succ r ihr =>
              intro hr
              obtain ⟨cs', h1, h2⟩ := hx r (by omega)
              rw [List.range_succ, List.map_append, List.flatten_append, List.length_append, ihr (by omega)]
              simp only [List.map_cons, List.map_nil, List.flatten_cons, List.flatten_nil, List.append_nil, h1, Option.getD_some]
              rw [(hop _ _ _ h2).2, hn, Nat.succ_mul]
          have hlq := hlen q (by omega)
          by_cases hj : j < q * P.cellsOf e
          · rw [List.getElem?_append_left (by rw [hlq]; exact hj)] at hv
            exact ih (by omega) j v hv
          · rw [List.getElem?_append_right (by rw [hlq]; omega), hlq] at hv
            obtain ⟨cs', h1, h2⟩ := hx q (by omega)
            simp only [List.map_cons, List.map_nil, List.flatten_cons, List.flatten_nil, List.append_nil, h1, Option.getD_some] at hv
            obtain ⟨_, hlc, hc⟩ := World.cells?_some h1
            have hjl : j - q * P.cellsOf e < cs'.length := (List.getElem?_eq_some_iff.1 hv).1
            have := hc (j - q * P.cellsOf e) (by omega)
            rw [hv] at this
            rw [← this]
            congr 1
            unfold Addr.add
            by_cases h0 : q * P.cellsOf e = 0
            · simp [h0]
            · by_cases h3 : j - q * P.cellsOf e = 0
              · have : j = q * P.cellsOf e := by omega
                simp [this]
              · have h4 : ¬ j = 0 := by omega
                simp [h0, h3, h4]; omega
      intro j v hv
      exact ⟨a, rfl, key len (Nat.le_refl _) j v hv⟩
end
theorem slice_weight {H : Type} {enc : TypeId × Value → H} {P : Program} {w : World} {base fuel : Nat} {held : Bool} {t e : TypeId} {A : Option Addr} {len cap j : Nat} {d : DataW H} {p : List MemPlace} {ts : List TypeId} {ds : List (DataW H)}
    (hsz : (DataW.weightsEach P ts ds).all (· ≤ reachBytes) = true) (ht : ts[j]? = some t) (hd : ds[j]? = some d) (hu : P.underlying t = some (.slice e)) (h : DataW.trod enc P w base (fun _ => true) held fuel t [.slice A len cap] = some (d, p)) : cap * P.bytesOf e ≤ reachBytes := by
  rcases Deep.open_slice hu h with ⟨hcs, _⟩ | ⟨a, len', cap', m, k, D, Pl, hcs, _, hl, _, hmm, hx, _⟩
  · simp only [List.cons.injEq, Value.slice.injEq, and_true] at hcs
    obtain ⟨_, _, rfl⟩ := hcs
    rw [Nat.zero_mul]; exact Nat.zero_le _
  · simp only [List.cons.injEq, Value.slice.injEq, and_true] at hcs
    obtain ⟨rfl, rfl, rfl⟩ := hcs
    simp only [if_true] at hmm
    subst hmm
    obtain ⟨rfl, _⟩ := Prod.mk.inj hx
    have := sized_slice hsz ht hd hu
    simp only [List.length_map, List.length_range] at this
    rwa [show len + (m - len) = m by omega] at this
end Go.Fw
namespace Go.Proofs.Ytlapmbkfmbkdoaa
open Go Go.Fw Go.ChangeShapes Go.RowKit
theorem ce29 : Try.prog.cellsOf 29 = 1 := by kernel_rfl
theorem ce3 : Try.prog.cellsOf 3 = 1 := by kernel_rfl
theorem ce31 : Try.prog.cellsOf 31 = 4 := by kernel_rfl
section
variable {H : Type} {enc : TypeId × Value → H} {w : World} {base fuel : Nat} {spare : Nat → Bool} {held : Bool} {cs : List Value} {x : DataW H × List MemPlace}
theorem open_wide (h : DataW.trod enc Try.prog w base spare held fuel 31 cs = some x) : ∃ n : Nat, n < 115792089237316195423570985008687907853269984665640564039457584007913129639936 ∧ cs = wc n := by
  obtain ⟨xs, m, rfl, _, hl, hxl, hx⟩ := DataW.trod_array Try.underlying31 h
  rw [ce31] at hl
  simp only [ce29, Nat.mul_one] at hx
  have g : ∀ i (hi : i < 4), ∃ y, DataW.trod enc Try.prog w base spare held m 29 ((cs.drop i).take 1) = some y := fun i hi => ⟨xs[i]'(by omega), by rw [hx i hi]; simp [hxl, hi]⟩
  obtain ⟨a, b, c, d, rfl⟩ := len_4 hl
  focus
    obtain ⟨y0, g0⟩ := g 0 (by omega)
    obtain ⟨y1, g1⟩ := g 1 (by omega)
    obtain ⟨y2, g2⟩ := g 2 (by omega)
    obtain ⟨y3, g3⟩ := g 3 (by omega)
    obtain ⟨n0, e0, _, w0⟩ := DataW.trod_int Try.underlying29 g0
    obtain ⟨n1, e1, _, w1⟩ := DataW.trod_int Try.underlying29 g1
    obtain ⟨n2, e2, _, w2⟩ := DataW.trod_int Try.underlying29 g2
    obtain ⟨n3, e3, _, w3⟩ := DataW.trod_int Try.underlying29 g3
    simp only [List.drop_zero, List.drop_succ_cons, List.take_succ_cons, List.take_zero, List.cons.injEq, and_true] at e0 e1 e2 e3
    subst e0 e1 e2 e3
    exact wide_of (wf_u64 w0) (wf_u64 w1) (wf_u64 w2) (wf_u64 w3)
/-- the fields of a struct, one by one -/
theorem trod_fields {fs : Array Field} {t : TypeId} (ht : Try.prog.underlying t = some (.struct fs)) (h : DataW.trod enc Try.prog w base spare held fuel t cs = some x) :
    cs.length = Try.prog.cellsOf t ∧ ∃ m, ∀ (i : Nat) (f : Field) (t' off : Nat), fs[i]? = some f → f.type = t' → f.offset = off → ∃ y, DataW.trod enc Try.prog w base spare held m t' ((cs.drop off).take (Try.prog.cellsOf t')) = some y := by
  cases fuel with
  | zero => simp [DataW.trod] at h
  | succ m =>
    unfold DataW.trod at h
    rw [ht] at h
    simp only at h
    split at h
    · rename_i hl
      refine ⟨hl, m, fun i f t' off hf ht' ho => ?_⟩
      subst ht' ho
      cases hm : fs.toList.mapM fun (f : Field) => DataW.trod enc Try.prog w base spare held m f.type ((cs.drop f.offset).take (Try.prog.cellsOf f.type)) with
      | none => rw [hm] at h; simp at h
      | some ys =>
        have hlen := mapM_some_length hm
        have hi : i < fs.toList.length := by
          have := (Array.getElem?_eq_some_iff.1 hf).1
          simpa using this
        have := mapM_some_get hm i f (by simpa using hf)
        rw [List.getElem?_eq_getElem (by omega)] at this
        exact ⟨_, this⟩
    · simp at h
theorem open_u64 {n : Int} (h : DataW.trod enc Try.prog w base spare held fuel 29 (Value.int .u64 n).cells.toList = some x) : ∃ m : Nat, m < 18446744073709551616 ∧ n = (m : Int) := by
  obtain ⟨n0, e0, _, w0⟩ := DataW.trod_int Try.underlying29 h
  have e : n = n0 := by simpa [Value.cells] using e0
  subst e
  have h2 := wf_u64 w0
  exact ⟨n.toNat, by omega, by omega⟩
theorem open_int {n : Int} (h : DataW.trod enc Try.prog w base spare held fuel 3 (Value.int .i64 n).cells.toList = some x) : -9223372036854775808 ≤ n ∧ n ≤ 9223372036854775807 := by
  obtain ⟨n0, e0, _, w0⟩ := DataW.trod_int Try.underlying3 h
  have e : n = n0 := by simpa [Value.cells] using e0
  subst e
  have := bounds_i64 w0
  omega
end
end Go.Proofs.Ytlapmbkfmbkdoaa
