/- Part 5 of what the row MachineRefuses needs, with no condition beyond each lemma's own. -/
import Derived.Test.YtlapmbkfmbkdoaaRb4
section
namespace Go.Proofs.Ytlapmbkfmbkdoaa
open Go Go.Fw Go.RowKit
attribute [local irreducible] Go.Oper.wp Go.Code.wp Go.wpList Go.Fw.WL Go.Calls
def tabR : List (List Value) := [[.string ⟨#[115, 116, 111, 112]⟩, .int .i64 1, .int .i64 0, .int .i64 0, .func (.func 49) #[] #[]],
  [.string ⟨#[100, 111, 110, 101]⟩, .int .i64 1, .int .i64 1, .int .i64 0, .func (.func 50) #[] #[]],
  [.string ⟨#[112, 117, 115, 104]⟩, .int .i64 1, .int .i64 0, .int .i64 1, .func (.func 51) #[] #[]],
  [.string ⟨#[112, 111, 112]⟩, .int .i64 1, .int .i64 1, .int .i64 0, .func (.func 52) #[] #[]],
  [.string ⟨#[100, 117, 112]⟩, .int .i64 1, .int .i64 0, .int .i64 1, .func (.func 53) #[] #[]],
  [.string ⟨#[115, 119, 97, 112]⟩, .int .i64 1, .int .i64 0, .int .i64 0, .func (.func 54) #[] #[]],
  [.string ⟨#[97, 100, 100]⟩, .int .i64 2, .int .i64 2, .int .i64 1, .func (.func 55) #[] #[]],
  [.string ⟨#[115, 117, 98]⟩, .int .i64 2, .int .i64 2, .int .i64 1, .func (.func 56) #[] #[]],
  [.string ⟨#[109, 117, 108]⟩, .int .i64 5, .int .i64 2, .int .i64 1, .func (.func 57) #[] #[]],
  [.string ⟨#[100, 105, 118]⟩, .int .i64 10, .int .i64 2, .int .i64 1, .func (.func 58) #[] #[]],
  [.string ⟨#[109, 111, 100]⟩, .int .i64 10, .int .i64 2, .int .i64 1, .func (.func 59) #[] #[]],
  [.string ⟨#[108, 101, 115, 115]⟩, .int .i64 2, .int .i64 2, .int .i64 1, .func (.func 60) #[] #[]],
  [.string ⟨#[115, 97, 109, 101]⟩, .int .i64 2, .int .i64 2, .int .i64 1, .func (.func 61) #[] #[]],
  [.string ⟨#[110, 111, 116]⟩, .int .i64 2, .int .i64 1, .int .i64 1, .func (.func 62) #[] #[]],
  [.string ⟨#[106, 117, 109, 112]⟩, .int .i64 5, .int .i64 0, .int .i64 0, .func (.func 63) #[] #[]],
  [.string ⟨#[119, 104, 101, 110]⟩, .int .i64 5, .int .i64 1, .int .i64 0, .func (.func 64) #[] #[]],
  [.string ⟨#[97, 114, 103]⟩, .int .i64 2, .int .i64 0, .int .i64 1, .func (.func 65) #[] #[]],
  [.string ⟨#[97, 114, 103, 115]⟩, .int .i64 2, .int .i64 0, .int .i64 1, .func (.func 66) #[] #[]],
  [.string ⟨#[99, 97, 108, 108, 101, 114]⟩, .int .i64 2, .int .i64 0, .int .i64 1, .func (.func 67) #[] #[]],
  [.string ⟨#[115, 101, 108, 102]⟩, .int .i64 2, .int .i64 0, .int .i64 1, .func (.func 68) #[] #[]],
  [.string ⟨#[116, 111, 107, 101, 110]⟩, .int .i64 2, .int .i64 0, .int .i64 1, .func (.func 69) #[] #[]],
  [.string ⟨#[97, 109, 111, 117, 110, 116]⟩, .int .i64 2, .int .i64 0, .int .i64 1, .func (.func 70) #[] #[]],
  [.string ⟨#[116, 105, 109, 101]⟩, .int .i64 2, .int .i64 0, .int .i64 1, .func (.func 71) #[] #[]],
  [.string ⟨#[103, 97, 115]⟩, .int .i64 2, .int .i64 0, .int .i64 1, .func (.func 72) #[] #[]],
  [.string ⟨#[108, 111, 97, 100]⟩, .int .i64 200, .int .i64 1, .int .i64 1, .func (.func 73) #[] #[]],
  [.string ⟨#[115, 97, 118, 101]⟩, .int .i64 200, .int .i64 2, .int .i64 0, .func (.func 74) #[] #[]],
  [.string ⟨#[104, 97, 118, 101]⟩, .int .i64 200, .int .i64 2, .int .i64 1, .func (.func 75) #[] #[]],
  [.string ⟨#[115, 101, 110, 100]⟩, .int .i64 500, .int .i64 3, .int .i64 0, .func (.func 76) #[] #[]]]
def tabL : List Value := tabR.flatten
def rowC (nm : ByteArray) (c : Nat) : List Value := [.string nm, .int .i64 ((priceN c : Nat) : Int), .int .i64 ((takesN c : Nat) : Int), .int .i64 ((laysN c : Nat) : Int), .func (.func (49 + c)) #[] #[]]
theorem row_tab {c : Nat} (h : c < 28) : ∃ nm, tabR[c]? = some (rowC nm c) := by
  have hcases : c = 0 ∨ c = 1 ∨ c = 2 ∨ c = 3 ∨ c = 4 ∨ c = 5 ∨ c = 6 ∨ c = 7 ∨ c = 8 ∨ c = 9 ∨ c = 10 ∨ c = 11 ∨ c = 12 ∨ c = 13 ∨ c = 14 ∨ c = 15 ∨ c = 16 ∨ c = 17 ∨ c = 18 ∨ c = 19 ∨ c = 20 ∨ c = 21 ∨ c = 22 ∨ c = 23 ∨ c = 24 ∨ c = 25 ∨ c = 26 ∨ c = 27 := by omega
  rcases hcases with rfl | rfl | rfl | rfl | rfl | rfl | rfl | rfl | rfl | rfl | rfl | rfl | rfl | rfl | rfl | rfl | rfl | rfl | rfl | rfl | rfl | rfl | rfl | rfl | rfl | rfl | rfl | rfl <;> exact ⟨_, rfl⟩
theorem flat_at {l : List (List Value)} {k m : Nat} {r : List Value} (hl : ∀ x ∈ l, x.length = m) (hk : l[k]? = some r) : ∀ j v, r[j]? = some v → l.flatten[k * m + j]? = some v := by
  induction l generalizing k with
  | nil => simp at hk
  | cons x l ih =>
    have hx := hl x (by simp)
    intro j v hj
    cases k with
    | zero =>
      simp only [List.getElem?_cons_zero, Option.some.injEq] at hk
      subst hk
      rw [List.flatten_cons, Nat.zero_mul, Nat.zero_add, List.getElem?_append_left]
      · exact hj
      · rcases Nat.lt_or_ge j x.length with h | h
        · exact h
        · rw [List.getElem?_eq_none h] at hj; simp at hj
    | succ k =>
      rw [List.flatten_cons, List.getElem?_append_right (by rw [hx, Nat.add_mul]; omega), hx, show (k + 1) * m + j - m = k * m + j by rw [Nat.add_mul]; omega]
      exact ih (fun y hy => hl y (by simp [hy])) (by simpa using hk) j v hj
theorem row_at {c : Nat} (h : c < 28) : ∃ nm, ∀ off, off = c * 5 → ∀ j v, (rowC nm c)[j]? = some v → tabL[off + j]? = some v := by
  obtain ⟨nm, hr⟩ := row_tab h
  refine ⟨nm, fun off ho => ?_⟩
  subst ho
  exact flat_at (by decide +kernel) hr
theorem one_row (nm : ByteArray) (c : Nat) : ∀ v ∈ rowC nm c, v.oneCell' = true := by simp [rowC, Value.oneCell']
theorem one_tab : ∀ v ∈ tabL, v.oneCell' = true := by decide +kernel
theorem entC {c : Nat} (h : c < 28) : ∀ args w, (callFunc (49 + c) args).run Try.prog w = .ok (.enter (49 + c) args) w := by
  have hcases : c = 0 ∨ c = 1 ∨ c = 2 ∨ c = 3 ∨ c = 4 ∨ c = 5 ∨ c = 6 ∨ c = 7 ∨ c = 8 ∨ c = 9 ∨ c = 10 ∨ c = 11 ∨ c = 12 ∨ c = 13 ∨ c = 14 ∨ c = 15 ∨ c = 16 ∨ c = 17 ∨ c = 18 ∨ c = 19 ∨ c = 20 ∨ c = 21 ∨ c = 22 ∨ c = 23 ∨ c = 24 ∨ c = 25 ∨ c = 26 ∨ c = 27 := by omega
  rcases hcases with rfl | rfl | rfl | rfl | rfl | rfl | rfl | rfl | rfl | rfl | rfl | rfl | rfl | rfl | rfl | rfl | rfl | rfl | rfl | rfl | rfl | rfl | rfl | rfl | rfl | rfl | rfl | rfl
  · exact ent49
  · exact ent50
  · exact ent51
  · exact ent52
  · exact ent53
  · exact ent54
  · exact ent55
  · exact ent56
  · exact ent57
  · exact ent58
  · exact ent59
  · exact ent60
  · exact ent61
  · exact ent62
  · exact ent63
  · exact ent64
  · exact ent65
  · exact ent66
  · exact ent67
  · exact ent68
  · exact ent69
  · exact ent70
  · exact ent71
  · exact ent72
  · exact ent73
  · exact ent74
  · exact ent75
  · exact ent76
theorem R.loadAP {P : Program} {w : World} {ρ : Operand → Value} {dst : Option Tmp} {ty : TypeId} {pos : String} {af : Array Edge} {g : Option (Nat × Bool)} {x : Operand} {T : TypeId} {b off m : Nat} {cs xs : List Value} (h : aggT P T = true) (hx : ρ x = .pointer (some ⟨b, off, none⟩)) (hA : Rd w (some ⟨b, 0, none⟩) xs) (hs' : szT P T m) (hm : cs.length = m) (hpos : 0 < cs.length) (hl : ∀ j v, cs[j]? = some v → xs[off + j]? = some v) :
    (execOp ρ ⟨dst, .load T x, ty, pos, af, g⟩).run P w = .ok (.value (.agg cs.toArray)) w := by
  have hB : Rd w (some ⟨b, off, none⟩) cs := fun j v hj => by
    obtain ⟨a, ha, hc⟩ := hA _ _ (hl j v hj)
    simp only [Option.some.injEq] at ha
    subst ha
    exact ⟨_, rfl, by rw [addr_add] at hc ⊢; simpa using hc⟩
  exact R.loadAO (A := some ⟨b, off, none⟩) (k := 0) h hx hB hs' hm hpos (fun j v hj => by rw [Nat.zero_add]; exact hj)
theorem take_small : ∀ c, c < 28 → takesN c ≤ 3 ∧ laysN c ≤ 1 ∧ priceN c ≤ 500 ∧ 1 ≤ priceN c := by decide
theorem take_45 {c : Nat} (h : c = 4 ∨ c = 5) : takesN c = 0 := by rcases h with rfl | rfl <;> rfl
theorem size_28 {xs : List Nat} {p : Nat} (hs : sizeN xs p ≠ 0) : cAt xs p < 28 := by
  revert hs; unfold sizeN
  split
  · intro h; exact absurd rfl h
  · intro _; omega
theorem size_2 {xs : List Nat} {p : Nat} (hs : sizeN xs p ≠ 0) (h : cAt xs p = 4 ∨ cAt xs p = 5) : p + 1 < xs.length := by
  have h1 := (sizeN_le xs p).resolve_left hs
  have : sizeN xs p = 2 := by
    revert hs; unfold sizeN
    repeat' split
    all_goals omega
  omega
theorem spl_top {stk : List Nat} {t : Nat} (ht : t ≤ 3) (hl : t ≤ stk.length) : spl (List.replicate 12 (.int .u64 0)) 0 (((stk.drop (stk.length - t)).flatMap wc).take (min (stk.length - (stk.length - t)) 3 * 4)) = vc (fun i => stk.getD (stk.length - t + i) 0) := by
  have e : min (stk.length - (stk.length - t)) 3 = t := by omega
  have hg : ∀ i, stk.getD (stk.length - t + i) 0 = (stk.drop (stk.length - t)).getD i 0 := fun i => by simp [List.getD_eq_getElem?_getD]
  have hf : (fun i => stk.getD (stk.length - t + i) 0) = fun i => (stk.drop (stk.length - t)).getD i 0 := funext hg
  rw [e, hf]
  have hlen : (stk.drop (stk.length - t)).length = t := by rw [List.length_drop]; omega
  generalize stk.drop (stk.length - t) = l at *
  match l, hlen with
  | [], h => simp at h; subst h; show _ = _; kernel_rfl
  | [a], h => simp at h; subst h; show _ = _; kernel_rfl
  | [a, b], h => simp at h; subst h; show _ = _; kernel_rfl
  | [a, b, c], h => simp at h; subst h; show _ = _; kernel_rfl
  | a :: b :: c :: d :: r, h => simp at h; omega
set_option maxHeartbeats 4000000 in
theorem table_calls  (w0 : World) : Ret Try.prog 37 [] w0 [] (fun v s => v = .agg tabL.toArray ∧ s = []) := by
  refine fn_start Try.func37 rfl Try.ntmps37 rfl [] trivial ?_
  intro Q a hP hF hR hN
  have hS := St.start w0
  refine wp_seq_k fun K1 hK1 => ?_
  refine wp_region_lit ?_
  refine so (wn rfl) (O.alloc rfl rfl hF ze85 rfl hS fun b0 a w hF hS => ?_)
  refine s0 ?_
  refine then_n (hK1 _ _ ?_)
  refine wp_seq_k fun K2 hK2 => ?_
  refine wp_region_lit ?_
  refine sv' hF (wn rfl) rfl rfl (R.buildStr (l := [.string ⟨#[115, 116, 111, 112]⟩, .int .i64 1, .int .i64 0, .int .i64 0, .func (.func 49) #[] #[]]) Try.underlying84 ze84 pl84 (hF.evp rfl) (by kernel_rfl)) fun a hF => ?_
  refine sv' hF (wn rfl) rfl rfl (R.buildStr (l := [.string ⟨#[100, 111, 110, 101]⟩, .int .i64 1, .int .i64 1, .int .i64 0, .func (.func 50) #[] #[]]) Try.underlying84 ze84 pl84 (hF.evp rfl) (by kernel_rfl)) fun a hF => ?_
  refine sv' hF (wn rfl) rfl rfl (R.buildStr (l := [.string ⟨#[112, 117, 115, 104]⟩, .int .i64 1, .int .i64 0, .int .i64 1, .func (.func 51) #[] #[]]) Try.underlying84 ze84 pl84 (hF.evp rfl) (by kernel_rfl)) fun a hF => ?_
  refine sv' hF (wn rfl) rfl rfl (R.buildStr (l := [.string ⟨#[112, 111, 112]⟩, .int .i64 1, .int .i64 1, .int .i64 0, .func (.func 52) #[] #[]]) Try.underlying84 ze84 pl84 (hF.evp rfl) (by kernel_rfl)) fun a hF => ?_
  refine sv' hF (wn rfl) rfl rfl (R.buildStr (l := [.string ⟨#[100, 117, 112]⟩, .int .i64 1, .int .i64 0, .int .i64 1, .func (.func 53) #[] #[]]) Try.underlying84 ze84 pl84 (hF.evp rfl) (by kernel_rfl)) fun a hF => ?_
  refine sv' hF (wn rfl) rfl rfl (R.buildStr (l := [.string ⟨#[115, 119, 97, 112]⟩, .int .i64 1, .int .i64 0, .int .i64 0, .func (.func 54) #[] #[]]) Try.underlying84 ze84 pl84 (hF.evp rfl) (by kernel_rfl)) fun a hF => ?_
  refine sv' hF (wn rfl) rfl rfl (R.buildStr (l := [.string ⟨#[97, 100, 100]⟩, .int .i64 2, .int .i64 2, .int .i64 1, .func (.func 55) #[] #[]]) Try.underlying84 ze84 pl84 (hF.evp rfl) (by kernel_rfl)) fun a hF => ?_
  refine sv' hF (wn rfl) rfl rfl (R.buildStr (l := [.string ⟨#[115, 117, 98]⟩, .int .i64 2, .int .i64 2, .int .i64 1, .func (.func 56) #[] #[]]) Try.underlying84 ze84 pl84 (hF.evp rfl) (by kernel_rfl)) fun a hF => ?_
  refine sv' hF (wn rfl) rfl rfl (R.buildStr (l := [.string ⟨#[109, 117, 108]⟩, .int .i64 5, .int .i64 2, .int .i64 1, .func (.func 57) #[] #[]]) Try.underlying84 ze84 pl84 (hF.evp rfl) (by kernel_rfl)) fun a hF => ?_
  refine sv' hF (wn rfl) rfl rfl (R.buildStr (l := [.string ⟨#[100, 105, 118]⟩, .int .i64 10, .int .i64 2, .int .i64 1, .func (.func 58) #[] #[]]) Try.underlying84 ze84 pl84 (hF.evp rfl) (by kernel_rfl)) fun a hF => ?_
  refine sv' hF (wn rfl) rfl rfl (R.buildStr (l := [.string ⟨#[109, 111, 100]⟩, .int .i64 10, .int .i64 2, .int .i64 1, .func (.func 59) #[] #[]]) Try.underlying84 ze84 pl84 (hF.evp rfl) (by kernel_rfl)) fun a hF => ?_
  refine sv' hF (wn rfl) rfl rfl (R.buildStr (l := [.string ⟨#[108, 101, 115, 115]⟩, .int .i64 2, .int .i64 2, .int .i64 1, .func (.func 60) #[] #[]]) Try.underlying84 ze84 pl84 (hF.evp rfl) (by kernel_rfl)) fun a hF => ?_
  refine sv' hF (wn rfl) rfl rfl (R.buildStr (l := [.string ⟨#[115, 97, 109, 101]⟩, .int .i64 2, .int .i64 2, .int .i64 1, .func (.func 61) #[] #[]]) Try.underlying84 ze84 pl84 (hF.evp rfl) (by kernel_rfl)) fun a hF => ?_
  refine sv' hF (wn rfl) rfl rfl (R.buildStr (l := [.string ⟨#[110, 111, 116]⟩, .int .i64 2, .int .i64 1, .int .i64 1, .func (.func 62) #[] #[]]) Try.underlying84 ze84 pl84 (hF.evp rfl) (by kernel_rfl)) fun a hF => ?_
  refine sv' hF (wn rfl) rfl rfl (R.buildStr (l := [.string ⟨#[106, 117, 109, 112]⟩, .int .i64 5, .int .i64 0, .int .i64 0, .func (.func 63) #[] #[]]) Try.underlying84 ze84 pl84 (hF.evp rfl) (by kernel_rfl)) fun a hF => ?_
  refine sv' hF (wn rfl) rfl rfl (R.buildStr (l := [.string ⟨#[119, 104, 101, 110]⟩, .int .i64 5, .int .i64 1, .int .i64 0, .func (.func 64) #[] #[]]) Try.underlying84 ze84 pl84 (hF.evp rfl) (by kernel_rfl)) fun a hF => ?_
  refine sv' hF (wn rfl) rfl rfl (R.buildStr (l := [.string ⟨#[97, 114, 103]⟩, .int .i64 2, .int .i64 0, .int .i64 1, .func (.func 65) #[] #[]]) Try.underlying84 ze84 pl84 (hF.evp rfl) (by kernel_rfl)) fun a hF => ?_
  refine sv' hF (wn rfl) rfl rfl (R.buildStr (l := [.string ⟨#[97, 114, 103, 115]⟩, .int .i64 2, .int .i64 0, .int .i64 1, .func (.func 66) #[] #[]]) Try.underlying84 ze84 pl84 (hF.evp rfl) (by kernel_rfl)) fun a hF => ?_
  refine sv' hF (wn rfl) rfl rfl (R.buildStr (l := [.string ⟨#[99, 97, 108, 108, 101, 114]⟩, .int .i64 2, .int .i64 0, .int .i64 1, .func (.func 67) #[] #[]]) Try.underlying84 ze84 pl84 (hF.evp rfl) (by kernel_rfl)) fun a hF => ?_
  refine sv' hF (wn rfl) rfl rfl (R.buildStr (l := [.string ⟨#[115, 101, 108, 102]⟩, .int .i64 2, .int .i64 0, .int .i64 1, .func (.func 68) #[] #[]]) Try.underlying84 ze84 pl84 (hF.evp rfl) (by kernel_rfl)) fun a hF => ?_
  refine sv' hF (wn rfl) rfl rfl (R.buildStr (l := [.string ⟨#[116, 111, 107, 101, 110]⟩, .int .i64 2, .int .i64 0, .int .i64 1, .func (.func 69) #[] #[]]) Try.underlying84 ze84 pl84 (hF.evp rfl) (by kernel_rfl)) fun a hF => ?_
  refine sv' hF (wn rfl) rfl rfl (R.buildStr (l := [.string ⟨#[97, 109, 111, 117, 110, 116]⟩, .int .i64 2, .int .i64 0, .int .i64 1, .func (.func 70) #[] #[]]) Try.underlying84 ze84 pl84 (hF.evp rfl) (by kernel_rfl)) fun a hF => ?_
  refine sv' hF (wn rfl) rfl rfl (R.buildStr (l := [.string ⟨#[116, 105, 109, 101]⟩, .int .i64 2, .int .i64 0, .int .i64 1, .func (.func 71) #[] #[]]) Try.underlying84 ze84 pl84 (hF.evp rfl) (by kernel_rfl)) fun a hF => ?_
  refine sv' hF (wn rfl) rfl rfl (R.buildStr (l := [.string ⟨#[103, 97, 115]⟩, .int .i64 2, .int .i64 0, .int .i64 1, .func (.func 72) #[] #[]]) Try.underlying84 ze84 pl84 (hF.evp rfl) (by kernel_rfl)) fun a hF => ?_
  refine sv' hF (wn rfl) rfl rfl (R.buildStr (l := [.string ⟨#[108, 111, 97, 100]⟩, .int .i64 200, .int .i64 1, .int .i64 1, .func (.func 73) #[] #[]]) Try.underlying84 ze84 pl84 (hF.evp rfl) (by kernel_rfl)) fun a hF => ?_
  refine sv' hF (wn rfl) rfl rfl (R.buildStr (l := [.string ⟨#[115, 97, 118, 101]⟩, .int .i64 200, .int .i64 2, .int .i64 0, .func (.func 74) #[] #[]]) Try.underlying84 ze84 pl84 (hF.evp rfl) (by kernel_rfl)) fun a hF => ?_
  refine sv' hF (wn rfl) rfl rfl (R.buildStr (l := [.string ⟨#[104, 97, 118, 101]⟩, .int .i64 200, .int .i64 2, .int .i64 1, .func (.func 75) #[] #[]]) Try.underlying84 ze84 pl84 (hF.evp rfl) (by kernel_rfl)) fun a hF => ?_
  refine sv' hF (wn rfl) rfl rfl (R.buildStr (l := [.string ⟨#[115, 101, 110, 100]⟩, .int .i64 500, .int .i64 3, .int .i64 0, .func (.func 76) #[] #[]]) Try.underlying84 ze84 pl84 (hF.evp rfl) (by kernel_rfl)) fun a hF => ?_
  refine sv' hF (wn rfl) rfl rfl (R.buildArr (l := tabL) Try.underlying85 ze85 sz84 (hF.evp rfl) (by kernel_rfl)) fun a hF => ?_
  refine so (wn rfl) (O.storeW sz85 (hF.ev rfl) (hF.ev rfl) (rfl) rfl (one_tab) hS .h (rfl) fun w hS => ?_)
  refine s0 ?_
  refine then_n (hK2 _ _ ?_)
  refine wp_ret (hR _ _ _ _ _ hF (run_results Try.results37 (.cw hF rfl agg85 hS .h sz85 (rfl) (.nil))) ?_)
  exact ⟨_, [], rfl, ⟨rfl, rfl⟩, hS.none⟩
end Go.Proofs.Ytlapmbkfmbkdoaa
end
section
namespace Go.Proofs.Ytlapmbkfmbkdoaa
open Go Go.Fw Go.RowKit
attribute [local irreducible] Go.Oper.wp Go.Code.wp Go.wpList Go.Fw.WL Go.Calls
def DidS (F : Fx) (V : Vr) (o : Out) (x : Value) (s' : Seg) : Prop := match o with
  | .more stk left p asks => x = .int .i64 0 ∧ ∃ V' s1 s2, s' = s1 ++ s2 ∧ RunS F V' stk s1 ∧ HostS F asks s2 ∧ V'.left = left ∧ V'.next = p ∧ V'.ended = V.ended ∧ V'.value = V.value
  | .fin val left asks => x = .int .i64 0 ∧ ∃ V' stk s1 s2, s' = s1 ++ s2 ∧ RunS F V' stk s1 ∧ HostS F asks s2 ∧ V'.left = left ∧ V'.ended = true ∧ V'.value = val
  | .err e asks => x = .int .i64 e ∧ e ≠ 0 ∧ ∃ s1 s2, s' = s1 ++ s2 ∧ HostS F asks s2
theorem did_did {F : Fx} {V V' : Vr} {o : Out} {x : Value} {s' : Seg} (h : Did F V' o x s') (h1 : V'.ended = V.ended) (h2 : V'.value = V.value) : DidS F V o x s' := by
  cases o with
  | more stk left p asks =>
    obtain ⟨a, b, s1, s2, c, d, e⟩ := h
    exact ⟨a, _, s1, s2, c, d, e, b.symm, rfl, h1, h2⟩
  | fin val left asks =>
    obtain ⟨a, b, stk, s1, s2, c, d, e⟩ := h
    exact ⟨a, _, stk, s1, s2, c, d, e, b.symm, rfl, rfl⟩
  | err e asks => exact h
theorem stp_end {cl : Cl} {code : List Nat} {rep : Nat → Nat × Int} {stk : List Nat} {left p : Nat} {asks : List Fw.Ask} (h : code.length ≤ p) : stp cl code rep stk left p asks = .err 106 asks := by simp [stp, h]
theorem stp_gas {cl : Cl} {code : List Nat} {rep : Nat → Nat × Int} {stk : List Nat} {left p : Nat} {asks : List Fw.Ask} (h : p < code.length) (h2 : left < priceN (cAt code p)) : stp cl code rep stk left p asks = .err 102 asks := by
  have : ¬ code.length ≤ p := by omega
  simp [stp, this, h2]
def deepN (code : List Nat) (p : Nat) : Nat := if cAt code p = 4 ∨ cAt code p = 5 then cAt code (p + 1) + 1 else takesN (cAt code p)
theorem deep_le {code : List Nat} {p : Nat} : takesN (cAt code p) ≤ deepN code p := by
  unfold deepN
  split
  · rename_i h; rw [take_45 h]; omega
  · exact Nat.le_refl _
theorem stp_stack {cl : Cl} {code : List Nat} {rep : Nat → Nat × Int} {stk : List Nat} {left p : Nat} {asks : List Fw.Ask} (h : p < code.length) (h2 : ¬ left < priceN (cAt code p)) (h3 : stk.length < deepN code p ∨ 64 < stk.length - takesN (cAt code p) + laysN (cAt code p)) : stp cl code rep stk left p asks = .err 103 asks := by
  have h1 : ¬ code.length ≤ p := by omega
  unfold stp
  rw [if_neg h1, if_neg h2]
  exact if_pos h3
theorem stp_do {cl : Cl} {code : List Nat} {rep : Nat → Nat × Int} {stk : List Nat} {left p : Nat} {asks : List Fw.Ask} (h : p < code.length) (h2 : ¬ left < priceN (cAt code p)) (h3 : ¬ (stk.length < deepN code p ∨ 64 < stk.length - takesN (cAt code p) + laysN (cAt code p))) :
    stp cl code rep stk left p asks = doN cl code rep (cAt code p) (cAt code (p + 1)) p (left - priceN (cAt code p)) (stk.take (stk.length - takesN (cAt code p))) (fun i => stk.getD (stk.length - takesN (cAt code p) + i) 0) asks := by
  have h1 : ¬ code.length ≤ p := by omega
  unfold stp
  rw [if_neg h1, if_neg h2]
  exact if_neg h3
theorem one82 : oneT Try.prog 82 = true := by kernel_rfl
theorem nz82 : nzT Try.prog 82 = true := by kernel_rfl
theorem ze100b : zeT Try.prog 100 (.agg (List.replicate 12 (.int .u64 0)).toArray) := by unfold zeT; kernel_rfl
set_option maxHeartbeats 4000000 in
theorem step_calls (F : Fx) (V : Vr) (stk : List Nat) (asks : List Fw.Ask) (s1 s2 : Seg) (tb : Nat) (w0 : World) (hNX : NextOK F) (hK : F.Ok) (hval : V.p < F.code.length → sizeN F.code V.p ≠ 0) (hRun : RunS F V stk s1) (hH : HostS F asks s2) (ho : Own w0 (s1 ++ s2)) (hT : RdK w0 ((s1 ++ s2).map (·.1)) (some ⟨tb, 0, none⟩) tabL) (hD' : F.Rds w0 ((s1 ++ s2).map (·.1))) (hl : stk.length ≤ 64) (hW : AllW stk) (hla : asks.length ≤ 20000) (hq : V.left ≤ 10000) : Ret Try.prog 38 [.pointer (some ⟨F.rb, 0, none⟩), .pointer (some ⟨tb, 0, none⟩)] w0 ((s1 ++ s2).map (·.1)) (fun x s' => DidS F V (stp F.cl F.code F.rep stk V.left V.p asks) x s') := by
  refine fn_start Try.func38 rfl Try.ntmps38 rfl [(0, .pointer (some ⟨F.rb, 0, none⟩)), (1, .pointer (some ⟨tb, 0, none⟩))] ⟨rfl, rfl, trivial⟩ ?_
  intro Q a hP hF hR hN
  have hS := St.enter ho
  obtain ⟨A, c, sg, hs, hO⟩ := hRun; have hS := hS.flat (bs' := [[(F.rb, Cel (rcells F (.slice A stk.length c) V) 81)], sg, s2]) (by simp [hs])
  refine wp_seq_k fun K1 hK1 => ?_
  refine wp_region_lit ?_
  refine sv' hF (wn rfl) rfl rfl (R.assign (hF.ev rfl)) fun a hF => ?_
  refine s0 ?_
  refine then_n (hK1 _ _ ?_)
  refine wp_seq_k fun K2 hK2 => ?_
  refine wp_seq_k fun K3 hK3 => ?_
  refine wp_drawG hS (hS.sel [0] rfl rfl) [(0, 0), (1, 0), (2, 0), (3, 1), (4, 0), (5, 0), (6, 0), (7, 1), (8, 0), (9, 0)] mix (by kernel_rfl) (hP.then.then) fun w hS hD => ?_
  refine dq hF rfl (wn rfl) rfl rfl (fun w => R.move (hF.ev rfl)) fun a hF => ?_
  refine dq hF rfl (wn rfl) rfl rfl (fun w => R.nilCheck (hF.ev rfl)) fun a hF => ?_
  refine dq hF rfl (wn rfl) rfl rfl (fun w => R.fieldAddr (k := 52) Try.underlying81 rfl nz3 (hF.ev rfl) rfl) fun a hF => ?_
  refine dr hF rfl (wn rfl) rfl rfl hD (fun w hD => R.load one3 (hF.ev rfl) hD .h (rfl)) fun a hF => ?_
  refine dq hF rfl (wn rfl) rfl rfl (fun w => R.move (hF.ev rfl)) fun a hF => ?_
  refine dq hF rfl (wn rfl) rfl rfl (fun w => R.nilCheck (hF.ev rfl)) fun a hF => ?_
  refine dq hF rfl (wn rfl) rfl rfl (fun w => R.fieldAddr (k := 0) Try.underlying81 rfl nz23 (hF.ev rfl) rfl) fun a hF => ?_
  refine dr hF rfl (wn rfl) rfl rfl hD (fun w hD => R.load one23 (hF.ev rfl) hD .h (rfl)) fun a hF => ?_
  refine dq hF rfl (wn rfl) rfl rfl (fun w => R.len Try.underlying23 (hF.ev rfl)) fun a hF => ?_
  refine dq hF rfl (wn rfl) rfl rfl (fun w => R.geq (hF.ev rfl) (hF.ev rfl)) fun a hF => ?_
  refine d0 ?_
  refine then_n (hK3 _ _ ?_)
  refine cD hF rfl (fun c1 => ?_) (fun c1 => ?_)
  ·
    refine wp_seq_k fun K4 hK4 => ?_
    refine wp_region_lit ?_
    refine sv' hF (wn rfl) rfl rfl (R.assign (hF.ev rfl)) fun a hF => ?_
    refine s0 ?_
    refine then_n (hK4 _ _ ?_)
    refine wp_ret (then_r (hR _ _ _ _ _ hF (run_results Try.results38 (.t hF rfl (.nil))) ?_))
    rw [stp_end (by omega)]
    exact ⟨_, s2, rfl, ⟨rfl, by decide, [], s2, rfl, hH⟩, hS.one (.t (.t .h))⟩
  ·
    have hp : V.p < F.code.length := by omega
    have hs0 := hval hp
    have h28 := size_28 hs0
    obtain ⟨nm, hrow⟩ := row_at h28
    have htd : takesN (cAt F.code V.p) ≤ deepN F.code V.p := deep_le
    have hsm := take_small _ h28; have hb1 := cAt_lt hK.byt (V.p + 1); have hb0 := cAt_lt hK.byt V.p; have hlen := hK.len; have hsz := (sizeN_le F.code V.p).resolve_left hs0
    refine wp_skip ?_
    refine then_n (hK2 _ _ ?_)
    refine wp_seq_k fun K5 hK5 => ?_
    refine wp_drawG hS (hS.sel [0] rfl rfl) [(0, 0), (1, 0), (2, 0), (3, 0), (4, 1), (5, 0), (6, 0), (7, 0), (8, 1), (9, 0), (10, 1), (11, 0), (12, 0), (13, 1), (14, 2), (15, 3)] mix (by kernel_rfl) (hP.then) fun w hS hD => ?_
    refine dq hF rfl (wn rfl) rfl rfl (fun w => R.move (hF.ev rfl)) fun a hF => ?_
    refine dq hF rfl (wn rfl) rfl rfl (fun w => R.move (hF.ev rfl)) fun a hF => ?_
    refine dq hF rfl (wn rfl) rfl rfl (fun w => R.nilCheck (hF.ev rfl)) fun a hF => ?_
    refine dq hF rfl (wn rfl) rfl rfl (fun w => R.fieldAddr (k := 0) Try.underlying81 rfl nz23 (hF.ev rfl) rfl) fun a hF => ?_
    refine dr hF rfl (wn rfl) rfl rfl hD (fun w hD => R.load one23 (hF.ev rfl) hD .h (rfl)) fun a hF => ?_
    refine dq hF rfl (wn rfl) rfl rfl (fun w => R.move (hF.ev rfl)) fun a hF => ?_
    refine dq hF rfl (wn rfl) rfl rfl (fun w => R.nilCheck (hF.ev rfl)) fun a hF => ?_
    refine dq hF rfl (wn rfl) rfl rfl (fun w => R.fieldAddr (k := 52) Try.underlying81 rfl nz3 (hF.ev rfl) rfl) fun a hF => ?_
    refine dr hF rfl (wn rfl) rfl rfl hD (fun w hD => R.load one3 (hF.ev rfl) hD .h (rfl)) fun a hF => ?_
    refine dq hF rfl (wn rfl) rfl rfl (fun w => R.indexO Try.underlying23 sz5 (hF.ev rfl) (Rd.ne (hD'.code.old hS) (by rw [length_byts]; omega)) (hF.ev rfl) (by omega) (by omega)) fun a hF => ?_
    refine dr hF rfl (wn rfl) rfl rfl hD (fun w hD => R.loadO one5 (hF.ev rfl) (hD'.code.old hD) (cb_at (i := V.p) (by omega) (by omega))) fun a hF => ?_
    refine dq hF rfl (wn rfl) rfl rfl (fun w => R.nilCheck (hF.ev rfl)) fun a hF => ?_
    refine dq hF rfl (wn rfl) rfl rfl (fun w => R.indexA Try.underlying85 sz84 (hF.ev rfl) (hF.ev rfl) (by omega) (by omega)) fun a hF => ?_
    refine dr hF rfl (wn rfl) rfl rfl hD (fun w hD => R.loadAP (cs := rowC nm (cAt F.code V.p)) (xs := tabL) agg84 (hF.ev rfl) (hT.old hD) sz84 rfl (Nat.succ_pos _) (hrow _ (by omega))) fun a hF => ?_
    refine dl rfl (wn rfl) (O.alloc rfl rfl hF ze84 rfl hS fun b5 a w hF hS => ⟨fun hD => hS.sel [1] rfl rfl, ?_⟩)
    have hD := hS.sel [1] rfl rfl
    refine dw rfl (wn rfl) (O.storeW sz84 (hF.ev rfl) (hF.ev rfl) (rfl) rfl (one_row _ _) hS .h (rfl) fun w hS => ?_)
    refine d0 ?_
    refine then_n (hK5 _ _ ?_)
    refine wp_seq_k fun K6 hK6 => ?_
    refine wp_seq_k fun K7 hK7 => ?_
    refine wp_drawS hS [(0, 0), (1, 1), (2, 0), (3, 0), (4, 0), (5, 1), (6, 0)] mix (by kernel_rfl) (hP.then.then) fun w hS => ?_
    have hD := hS
    refine dq hF rfl (wn rfl) rfl rfl (fun w => R.fieldAddr (k := 1) Try.underlying84 rfl nz3 (hF.ev rfl) rfl) fun a hF => ?_
    refine dr hF rfl (wn rfl) rfl rfl hD (fun w hD => R.load one3 (hF.ev rfl) hD .h (rfl)) fun a hF => ?_
    refine dq hF rfl (wn rfl) rfl rfl (fun w => R.move (hF.ev rfl)) fun a hF => ?_
    refine dq hF rfl (wn rfl) rfl rfl (fun w => R.nilCheck (hF.ev rfl)) fun a hF => ?_
    refine dq hF rfl (wn rfl) rfl rfl (fun w => R.fieldAddr (k := 51) Try.underlying81 rfl nz3 (hF.ev rfl) rfl) fun a hF => ?_
    refine dr hF rfl (wn rfl) rfl rfl hD (fun w hD => R.load one3 (hF.ev rfl) hD (.t .h) (rfl)) fun a hF => ?_
    refine dq hF rfl (wn rfl) rfl rfl (fun w => R.gtr (hF.ev rfl) (hF.ev rfl)) fun a hF => ?_
    refine d0 ?_
    refine then_n (hK7 _ _ ?_)
    refine cD hF rfl (fun c2 => ?_) (fun c2 => ?_)
    ·
      refine wp_seq_k fun K8 hK8 => ?_
      refine wp_region_lit ?_
      refine sv' hF (wn rfl) rfl rfl (R.assign (hF.ev rfl)) fun a hF => ?_
      refine s0 ?_
      refine then_n (hK8 _ _ ?_)
      refine wp_ret (then_r (hR _ _ _ _ _ hF (run_results Try.results38 (.t hF rfl (.nil))) ?_))
      rw [stp_gas hp (by omega)]
      exact ⟨_, s2, rfl, ⟨rfl, by decide, [], s2, rfl, hH⟩, hS.one (.t (.t (.t .h)))⟩
    ·
      refine wp_skip ?_
      refine then_n (hK6 _ _ ?_)
      refine wp_seq_k fun K9 hK9 => ?_
      refine wp_drawS hS [(0, 0), (1, 0), (2, 0), (3, 1), (4, 0), (5, 1), (6, 0), (7, 0), (8, 0), (9, 3)] mix (by kernel_rfl) (hP.then) fun w hS => ?_
      have hD := hS
      refine dq hF rfl (wn rfl) rfl rfl (fun w => R.move (hF.ev rfl)) fun a hF => ?_
      refine dq hF rfl (wn rfl) rfl rfl (fun w => R.nilCheck (hF.ev rfl)) fun a hF => ?_
      refine dq hF rfl (wn rfl) rfl rfl (fun w => R.fieldAddr (k := 51) Try.underlying81 rfl nz3 (hF.ev rfl) rfl) fun a hF => ?_
      refine dr hF rfl (wn rfl) rfl rfl hD (fun w hD => R.load one3 (hF.ev rfl) hD (.t .h) (rfl)) fun a hF => ?_
      refine dq hF rfl (wn rfl) rfl rfl (fun w => R.fieldAddr (k := 1) Try.underlying84 rfl nz3 (hF.ev rfl) rfl) fun a hF => ?_
      refine dr hF rfl (wn rfl) rfl rfl hD (fun w hD => R.load one3 (hF.ev rfl) hD .h (rfl)) fun a hF => ?_
      refine dq hF rfl (wn rfl) rfl rfl (fun w => R.as (u := .int .i64 ((V.left - priceN (cAt F.code V.p) : Nat) : Int)) (R.subI (hF.ev rfl) (hF.ev rfl) (by omega)) (congrArg (Value.int .i64) (by omega))) fun a hF => ?_
      refine dq hF rfl (wn rfl) rfl rfl (fun w => R.nilCheck (hF.ev rfl)) fun a hF => ?_
      refine dq hF rfl (wn rfl) rfl rfl (fun w => R.fieldAddr (k := 51) Try.underlying81 rfl nz3 (hF.ev rfl) rfl) fun a hF => ?_
      refine dw rfl (wn rfl) (O.store sz3 (hF.ev rfl) (hF.ev rfl) rfl rfl hS (.t .h) (show List.set _ _ _ = rcells F (.slice A stk.length c) { V with left := V.left - priceN (cAt F.code V.p) } from rfl) (by first | decide | omega | (show _ < 59; decide) | (show _ < 3; decide) | simp) fun w hS => ?_)
      refine d0 ?_
      refine then_n (hK9 _ _ ?_)
      refine wp_seq_k fun K10 hK10 => ?_
      refine wp_region_lit ?_
      refine sv' hF (wn rfl) rfl rfl (R.fieldAddr (k := 2) Try.underlying84 rfl nz3 (hF.ev rfl) rfl) fun a hF => ?_
      refine sv' hF (wn rfl) rfl rfl (R.load one3 (hF.ev rfl) hS .h (rfl)) fun a hF => ?_
      refine sv' hF (wn rfl) rfl rfl (R.assign (hF.ev rfl)) fun a hF => ?_
      refine s0 ?_
      refine then_n (hK10 _ _ ?_)
      refine wp_seq_k fun K11 hK11 => ?_
      have hK11' : ∀ a w, (∃ (dp : Nat), Fr 141 [(0, .pointer (some ⟨F.rb, 0, none⟩)), (1, .pointer (some ⟨tb, 0, none⟩)), (5, .pointer (some ⟨b5, 0, none⟩)), (6, .int .i64 ((dp : Nat) : Int))] a ∧ St w0 ((s1 ++ s2).map (·.1)) [[(F.rb, Cel (rcells F (.slice A stk.length c) { V with left := V.left - priceN (cAt F.code V.p) }) 81)], sg, [(b5, Cel (rowC nm (cAt F.code V.p)) 84)], s2] w ∧ (dp = deepN F.code V.p)) → K11 a w := by
        rintro a w ⟨dp, hF, hS, hdp⟩
        refine hK11 _ _ ?_
        refine wp_seq_k fun K12 hK12 => ?_
        refine wp_seq_k fun K13 hK13 => ?_
        have hK13' : ∀ a w, (Fr 141 [(0, .pointer (some ⟨F.rb, 0, none⟩)), (1, .pointer (some ⟨tb, 0, none⟩)), (5, .pointer (some ⟨b5, 0, none⟩)), (91, .bool (decide (stk.length < dp ∨ 64 < stk.length - takesN (cAt F.code V.p) + laysN (cAt F.code V.p))))] a ∧ St w0 ((s1 ++ s2).map (·.1)) [[(F.rb, Cel (rcells F (.slice A stk.length c) { V with left := V.left - priceN (cAt F.code V.p) }) 81)], sg, [(b5, Cel (rowC nm (cAt F.code V.p)) 84)], s2] w) → K13 a w := by
          rintro a w ⟨hF, hS⟩
          refine hK13 _ _ ?_
          refine cD hF rfl (fun c4 => ?_) (fun c4 => ?_)
          ·
            refine wp_seq_k fun K14 hK14 => ?_
            refine wp_region_lit ?_
            refine sv' hF (wn rfl) rfl rfl (R.assign (hF.ev rfl)) fun a hF => ?_
            refine s0 ?_
            refine then_n (hK14 _ _ ?_)
            refine wp_ret (then_r (hR _ _ _ _ _ hF (run_results Try.results38 (.t hF rfl (.nil))) ?_))
            rw [stp_stack hp (by omega) (by rw [← hdp]; omega)]
            exact ⟨_, s2, rfl, ⟨rfl, by decide, [], s2, rfl, hH⟩, hS.one (.t (.t (.t .h)))⟩
          ·
            refine wp_skip ?_
            refine then_n (hK12 _ _ ?_)
            refine wp_seq_k fun K15 hK15 => ?_
            refine wp_drawS hS [(0, 0), (1, 0), (2, 0), (3, 1), (4, 0), (5, 0), (6, 1), (7, 0), (8, 0)] mix (by kernel_rfl) (hP.then) fun w hS => ?_
            have hD := hS
            refine dq hF rfl (wn rfl) rfl rfl (fun w => R.move (hF.ev rfl)) fun a hF => ?_
            refine dq hF rfl (wn rfl) rfl rfl (fun w => R.nilCheck (hF.ev rfl)) fun a hF => ?_
            refine dq hF rfl (wn rfl) rfl rfl (fun w => R.fieldAddr (k := 50) Try.underlying81 rfl nz32 (hF.ev rfl) rfl) fun a hF => ?_
            refine dr hF rfl (wn rfl) rfl rfl hD (fun w hD => R.load one32 (hF.ev rfl) hD .h (rfl)) fun a hF => ?_
            refine dq hF rfl (wn rfl) rfl rfl (fun w => R.len Try.underlying32 (hF.ev rfl)) fun a hF => ?_
            refine dq hF rfl (wn rfl) rfl rfl (fun w => R.fieldAddr (k := 2) Try.underlying84 rfl nz3 (hF.ev rfl) rfl) fun a hF => ?_
            refine dr hF rfl (wn rfl) rfl rfl hD (fun w hD => R.load one3 (hF.ev rfl) hD (.t (.t .h)) (rfl)) fun a hF => ?_
            refine dq hF rfl (wn rfl) rfl rfl (fun w => R.as (u := .int .i64 ((stk.length - takesN (cAt F.code V.p) : Nat) : Int)) (R.subI (hF.ev rfl) (hF.ev rfl) (by omega)) (congrArg (Value.int .i64) (by omega))) fun a hF => ?_
            refine dq hF rfl (wn rfl) rfl rfl (fun w => R.assign (hF.ev rfl)) fun a hF => ?_
            refine d0 ?_
            refine then_n (hK15 _ _ ?_)
            refine wp_seq_k fun K16 hK16 => ?_
            refine wp_region_lit ?_
            refine so (wn rfl) (O.alloc rfl rfl hF ze100b rfl hS fun b9 a w hF hS => ?_)
            refine s0 ?_
            refine then_n (hK16 _ _ ?_)
            refine wp_seq_k fun K17 hK17 => ?_
            refine wp_drawG hS (hS.sel [1] rfl rfl) [(0, 0), (1, 0), (2, 0), (3, 0), (4, 1), (5, 0), (6, 0), (7, 2)] mix (by kernel_rfl) (hP.then) fun w hS hD => ?_
            refine dq hF rfl (wn rfl) rfl rfl (fun w => R.sliceAll Try.underlying100 sz31 (hF.ev rfl)) fun a hF => ?_
            refine dq hF rfl (wn rfl) rfl rfl (fun w => R.move (hF.ev rfl)) fun a hF => ?_
            refine dq hF rfl (wn rfl) rfl rfl (fun w => R.nilCheck (hF.ev rfl)) fun a hF => ?_
            refine dq hF rfl (wn rfl) rfl rfl (fun w => R.fieldAddr (k := 50) Try.underlying81 rfl nz32 (hF.ev rfl) rfl) fun a hF => ?_
            refine dr hF rfl (wn rfl) rfl rfl hD (fun w hD => R.load one32 (hF.ev rfl) hD .h (rfl)) fun a hF => ?_
            refine dq hF rfl (wn rfl) rfl rfl (fun w => R.move (hF.ev rfl)) fun a hF => ?_
            refine dq hF rfl (wn rfl) rfl rfl (fun w => R.sliceLo (p := (stk.length - takesN (cAt F.code V.p))) Try.underlying32 (hF.ev rfl) (hF.ev rfl) (by omega) sz31) fun a hF => ?_
            refine dl rfl (wn rfl) (O.copyAt (o := 0) (cs := (stk.drop (stk.length - takesN (cAt F.code V.p))).flatMap wc) rfl rfl hF Try.underlying32 sz31 (hF.ev rfl) (hF.ev rfl) hS (rd_drop (hO.rd hS (.t (.t .h))) hO.2.1 (stk.length - takesN (cAt F.code V.p))) (by rw [wcs_length, List.length_drop]) (by decide) (wcs_one _) .h (spl_top (by omega) (by omega)) (by rw [List.length_replicate]; omega) fun a w hF hS => ⟨fun hD => hS.sel [1] rfl rfl, ?_⟩)
            have hD := hS.sel [1] rfl rfl
            refine d0 ?_
            refine then_n (hK17 _ _ ?_)
            refine wp_seq_k fun K18 hK18 => ?_
            refine wp_region_lit ?_
            refine sv' hF (wn rfl) rfl rfl (R.move (hF.ev rfl)) fun a hF => ?_
            refine sv' hF (wn rfl) rfl rfl (R.move (hF.ev rfl)) fun a hF => ?_
            refine sv' hF (wn rfl) rfl rfl (R.nilCheck (hF.ev rfl)) fun a hF => ?_
            refine sv' hF (wn rfl) rfl rfl (R.fieldAddr (k := 50) Try.underlying81 rfl nz32 (hF.ev rfl) rfl) fun a hF => ?_
            refine sv' hF (wn rfl) rfl rfl (R.load one32 (hF.ev rfl) hS (.t .h) (rfl)) fun a hF => ?_
            refine sv' hF (wn rfl) rfl rfl (R.move (hF.ev rfl)) fun a hF => ?_
            refine sv' hF (wn rfl) rfl rfl (R.as (u := .slice A (stk.length - takesN (cAt F.code V.p)) c) (R.sliceHi Try.underlying32 (hF.ev rfl) (hF.ev rfl) (by omega) (by have := hO.2.1; omega) _ sz31) (congrArg (fun z => Value.slice A z c) (by omega))) fun a hF => ?_
            refine sv' hF (wn rfl) rfl rfl (R.nilCheck (hF.ev rfl)) fun a hF => ?_
            refine sv' hF (wn rfl) rfl rfl (R.fieldAddr (k := 50) Try.underlying81 rfl nz32 (hF.ev rfl) rfl) fun a hF => ?_
            refine so (wn rfl) (O.store sz32 (hF.ev rfl) (hF.ev rfl) rfl rfl hS (.t .h) (show List.set _ _ _ = rcells F (.slice A (stk.length - takesN (cAt F.code V.p)) c) { V with left := V.left - priceN (cAt F.code V.p) } from rfl) (by first | decide | omega | (show _ < 59; decide) | (show _ < 3; decide) | simp) fun w hS => ?_)
            refine s0 ?_
            refine then_n (hK18 _ _ ?_)
            refine wp_seq_k fun K19 hK19 => ?_
            refine wp_drawS hS [(0, 0), (1, 0), (2, 0), (3, 0), (4, 1), (5, 0), (6, 0), (7, 0), (8, 1), (9, 0), (10, 0), (11, 0), (12, 1), (13, 2), (14, 0), (15, 0), (16, 0), (17, 3)] mix (by kernel_rfl) (hP.then) fun w hS => ?_
            have hD := hS
            refine dq hF rfl (wn rfl) rfl rfl (fun w => R.move (hF.ev rfl)) fun a hF => ?_
            refine dq hF rfl (wn rfl) rfl rfl (fun w => R.move (hF.ev rfl)) fun a hF => ?_
            refine dq hF rfl (wn rfl) rfl rfl (fun w => R.nilCheck (hF.ev rfl)) fun a hF => ?_
            refine dq hF rfl (wn rfl) rfl rfl (fun w => R.fieldAddr (k := 52) Try.underlying81 rfl nz3 (hF.ev rfl) rfl) fun a hF => ?_
            refine dr hF rfl (wn rfl) rfl rfl hD (fun w hD => R.load one3 (hF.ev rfl) hD (.t .h) (rfl)) fun a hF => ?_
            dsimp only at hF
            refine dq hF rfl (wn rfl) rfl rfl (fun w => R.move (hF.ev rfl)) fun a hF => ?_
            refine dq hF rfl (wn rfl) rfl rfl (fun w => R.nilCheck (hF.ev rfl)) fun a hF => ?_
            refine dq hF rfl (wn rfl) rfl rfl (fun w => R.fieldAddr (k := 0) Try.underlying81 rfl nz23 (hF.ev rfl) rfl) fun a hF => ?_
            refine dr hF rfl (wn rfl) rfl rfl hD (fun w hD => R.load one23 (hF.ev rfl) hD (.t .h) (rfl)) fun a hF => ?_
            refine dq hF rfl (wn rfl) rfl rfl (fun w => R.move (hF.ev rfl)) fun a hF => ?_
            refine dq hF rfl (wn rfl) rfl rfl (fun w => R.nilCheck (hF.ev rfl)) fun a hF => ?_
            refine dq hF rfl (wn rfl) rfl rfl (fun w => R.fieldAddr (k := 52) Try.underlying81 rfl nz3 (hF.ev rfl) rfl) fun a hF => ?_
            refine dr hF rfl (wn rfl) rfl rfl hD (fun w hD => R.load one3 (hF.ev rfl) hD (.t .h) (rfl)) fun a hF => ?_
            dsimp only at hF
            refine dl rfl (wn rfl) (O.call rfl rfl hF ent20 (hF.evs rfl) hS (size_calls F.cA F.code.length F.cc F.code V.p _ (hD'.code.old hS) rfl hK.cap hK.cap2 hK.byt (by omega)) fun v s130 a w hR hF hS => ⟨fun hD => hS.tail, ?_⟩)
            obtain ⟨rfl, rfl⟩ := hR
            have hD := hS.tail
            refine dq hF rfl (wn rfl) rfl rfl (fun w => R.addI (hF.ev rfl) (hF.ev rfl) (by omega)) fun a hF => ?_
            refine dq hF rfl (wn rfl) rfl rfl (fun w => R.nilCheck (hF.ev rfl)) fun a hF => ?_
            refine dq hF rfl (wn rfl) rfl rfl (fun w => R.fieldAddr (k := 53) Try.underlying81 rfl nz3 (hF.ev rfl) rfl) fun a hF => ?_
            refine dw rfl (wn rfl) (O.store sz3 (hF.ev rfl) (hF.ev rfl) rfl rfl hS (.t (.t .h)) (show List.set _ _ _ = rcells F (.slice A (stk.length - takesN (cAt F.code V.p)) c) { V with left := V.left - priceN (cAt F.code V.p), next := V.p + sizeN F.code V.p } from rfl) (by first | decide | omega | (show _ < 59; decide) | (show _ < 3; decide) | simp) fun w hS => ?_)
            refine d0 ?_
            refine then_n (hK19 _ _ ?_)
            refine wp_seq_k fun K20 hK20 => ?_
            refine wp_drawG hS (hS.sel [4] rfl rfl) [(0, 0), (1, 1), (2, 0), (3, 0), (4, 1), (5, 0), (6, 2), (7, 0)] mix (by kernel_rfl) (hP.then) fun w hS hD => ?_
            refine dq hF rfl (wn rfl) rfl rfl (fun w => R.fieldAddr (k := 4) Try.underlying84 rfl nz82 (hF.ev rfl) rfl) fun a hF => ?_
            refine dr hF rfl (wn rfl) rfl rfl hD (fun w hD => R.load one82 (hF.ev rfl) hD .h (rfl)) fun a hF => ?_
            refine dq hF rfl (wn rfl) rfl rfl (fun w => R.move (hF.ev rfl)) fun a hF => ?_
            refine dq hF rfl (wn rfl) rfl rfl (fun w => R.fieldAddr (k := 2) Try.underlying84 rfl nz3 (hF.ev rfl) rfl) fun a hF => ?_
            refine dr hF rfl (wn rfl) rfl rfl hD (fun w hD => R.load one3 (hF.ev rfl) hD .h (rfl)) fun a hF => ?_
            refine dq hF rfl (wn rfl) rfl rfl (fun w => R.as (u := .slice (some ⟨b9, 0, none⟩) (takesN (cAt F.code V.p)) 3) (R.sliceArr Try.underlying100 sz31 (hF.ev rfl) (hF.ev rfl) (by omega) (by omega)) (congrArg (fun z => Value.slice (some ⟨b9, 0, none⟩) z 3) (by omega))) fun a hF => ?_
            have hS := (hS.sel [4, 1, 2, 3, 5] rfl rfl).flat (bs' := [[(b5, Cel (rowC nm (cAt F.code V.p)) 84)], [(b9, Cel (vc (fun i => stk.getD ((stk.length - takesN (cAt F.code V.p)) + i) 0)) 100)], ((F.rb, Cel (rcells F (.slice A (stk.length - takesN (cAt F.code V.p)) c) { V with left := V.left - priceN (cAt F.code V.p), next := V.p + sizeN F.code V.p }) 81) :: sg) ++ s2]) (by simp [selS])
            refine dl rfl (wn rfl) (O.callV rfl rfl hF (hF.ev rfl) (entC h28) (hF.evs rfl) hS (op_does _ F { V with left := V.left - priceN (cAt F.code V.p), next := V.p + sizeN F.code V.p } (stk.take (stk.length - takesN (cAt F.code V.p))) asks ((F.rb, Cel (rcells F (.slice A (stk.length - takesN (cAt F.code V.p)) c) { V with left := V.left - priceN (cAt F.code V.p), next := V.p + sizeN F.code V.p }) 81) :: sg) s2 b9 _ _ hNX hK rfl h28 hp hs0 rfl (by show V.left - _ ≤ 10000; omega) (fun h45 => by (have := take_45 h45; have hdd : deepN F.code V.p = cAt F.code (V.p + 1) + 1 := if_pos h45; rw [List.length_take]; show cAt F.code (V.p + 1) < _; omega)) ⟨A, c, sg, by rw [List.length_take, Nat.min_eq_left (by omega)], by (rw [List.length_take, Nat.min_eq_left (by omega)]; have := hO.take (k := (stk.length - takesN (cAt F.code V.p))) (by omega); rw [wcs_take] at this; exact this)⟩ hH (hS.own1 (.t (.t .h))) (RdK.apart (hS.sel [1, 2] rfl rfl) (Rd.own0 hS (.t .h)) (List.mem_singleton.2 rfl)) (fun i => allW_getD hW _) (hD'.down hS (.t (.t .h))) (by rw [List.length_take]; omega) hla) (fun _ => (.t (.t .h))) fun v s140 a w hR9 hF hS => ⟨fun hD => hS.sel [0] rfl rfl, ?_⟩)
            have hD := hS.sel [0] rfl rfl
            refine dq hF rfl (wn rfl) rfl rfl (fun w => R.assign (hF.ev rfl)) fun a hF => ?_
            refine d0 ?_
            refine then_n (hK20 _ _ ?_)
            refine wp_ret (hR _ _ _ _ _ hF (run_results Try.results38 (.t hF rfl (.nil))) ?_)
            rw [stp_do hp (by omega) (by rw [← hdp]; omega)]
            exact ⟨_, s140, rfl, did_did hR9 rfl rfl, hS.one (.t (.t .h))⟩
        refine wp_drawS hS [(0, 0), (1, 0), (2, 0), (3, 1), (4, 0), (5, 0), (6, 0), (7, 0), (8, 0), (9, 0), (10, 0), (11, 1), (12, 0), (13, 0), (14, 1), (15, 0), (16, 0), (17, 1), (18, 0), (19, 0), (20, 0)] mix (by kernel_rfl) (hP.then.then) fun w hS => ?_
        have hD := hS
        refine dq hF rfl (wn rfl) rfl rfl (fun w => R.move (hF.ev rfl)) fun a hF => ?_
        refine dq hF rfl (wn rfl) rfl rfl (fun w => R.nilCheck (hF.ev rfl)) fun a hF => ?_
        refine dq hF rfl (wn rfl) rfl rfl (fun w => R.fieldAddr (k := 50) Try.underlying81 rfl nz32 (hF.ev rfl) rfl) fun a hF => ?_
        refine dr hF rfl (wn rfl) rfl rfl hD (fun w hD => R.load one32 (hF.ev rfl) hD .h (rfl)) fun a hF => ?_
        refine dq hF rfl (wn rfl) rfl rfl (fun w => R.len Try.underlying32 (hF.ev rfl)) fun a hF => ?_
        refine dq hF rfl (wn rfl) rfl rfl (fun w => R.move (hF.ev rfl)) fun a hF => ?_
        refine dq hF rfl (wn rfl) rfl rfl (fun w => R.lss (hF.ev rfl) (hF.ev rfl)) fun a hF => ?_
        refine dq hF rfl (wn rfl) rfl rfl (fun w => R.move (hF.ev rfl)) fun a hF => ?_
        refine hF.splitD (t := 78) rfl (fun h78 hF => ?_) (fun h78 hF => ?_)
        ·
          refine dk hF rfl (ws hF rfl rfl rfl rfl) rfl rfl fun a hF => ?_
          refine dk hF rfl (ws hF rfl rfl rfl rfl) rfl rfl fun a hF => ?_
          refine dk hF rfl (ws hF rfl rfl rfl rfl) rfl rfl fun a hF => ?_
          refine dk1 hF rfl (ws hF rfl rfl rfl rfl) rfl rfl hD fun a hF => ?_
          refine dk hF rfl (ws hF rfl rfl rfl rfl) rfl rfl fun a hF => ?_
          refine dk hF rfl (ws hF rfl rfl rfl rfl) rfl rfl fun a hF => ?_
          refine dk1 hF rfl (ws hF rfl rfl rfl rfl) rfl rfl hD fun a hF => ?_
          refine dk hF rfl (ws hF rfl rfl rfl rfl) rfl rfl fun a hF => ?_
          refine dk hF rfl (ws hF rfl rfl rfl rfl) rfl rfl fun a hF => ?_
          refine dk1 hF rfl (ws hF rfl rfl rfl rfl) rfl rfl hD fun a hF => ?_
          refine dk hF rfl (ws hF rfl rfl rfl rfl) rfl rfl fun a hF => ?_
          refine dk hF rfl (ws hF rfl rfl rfl rfl) rfl rfl fun a hF => ?_
          refine dq hF rfl (wn rfl) rfl rfl (fun w => R.pickT (hF.ev rfl) (hF.ev rfl)) fun a hF => ?_
          refine d0 ?_
          exact then_n (hK13' _ _ ⟨hF.sub ⟨rfl, rfl, rfl, (congrArg (fun z => some (Value.bool z)) (by first | exact (decide_eq_true (by omega)).symm | exact (decide_eq_false (by omega)).symm | exact decide_eq_decide.2 (by omega))), trivial⟩, hS.sel [0, 1, 2, 3] rfl rfl⟩)
        ·
          refine dq hF rfl (wy hF rfl rfl rfl) rfl rfl (fun w => R.move (hF.ev rfl)) fun a hF => ?_
          refine dq hF rfl (wy hF rfl rfl rfl) rfl rfl (fun w => R.nilCheck (hF.ev rfl)) fun a hF => ?_
          refine dq hF rfl (wy hF rfl rfl rfl) rfl rfl (fun w => R.fieldAddr (k := 50) Try.underlying81 rfl nz32 (hF.ev rfl) rfl) fun a hF => ?_
          refine dr hF rfl (wy hF rfl rfl rfl) rfl rfl hD (fun w hD => R.load one32 (hF.ev rfl) hD .h (rfl)) fun a hF => ?_
          refine dq hF rfl (wy hF rfl rfl rfl) rfl rfl (fun w => R.len Try.underlying32 (hF.ev rfl)) fun a hF => ?_
          refine dq hF rfl (wy hF rfl rfl rfl) rfl rfl (fun w => R.fieldAddr (k := 2) Try.underlying84 rfl nz3 (hF.ev rfl) rfl) fun a hF => ?_
          refine dr hF rfl (wy hF rfl rfl rfl) rfl rfl hD (fun w hD => R.load one3 (hF.ev rfl) hD (.t (.t .h)) (rfl)) fun a hF => ?_
          refine dq hF rfl (wy hF rfl rfl rfl) rfl rfl (fun w => R.subI (hF.ev rfl) (hF.ev rfl) (by omega)) fun a hF => ?_
          refine dq hF rfl (wy hF rfl rfl rfl) rfl rfl (fun w => R.fieldAddr (k := 3) Try.underlying84 rfl nz3 (hF.ev rfl) rfl) fun a hF => ?_
          refine dr hF rfl (wy hF rfl rfl rfl) rfl rfl hD (fun w hD => R.load one3 (hF.ev rfl) hD (.t (.t .h)) (rfl)) fun a hF => ?_
          refine dq hF rfl (wy hF rfl rfl rfl) rfl rfl (fun w => R.addI (hF.ev rfl) (hF.ev rfl) (by omega)) fun a hF => ?_
          refine dq hF rfl (wy hF rfl rfl rfl) rfl rfl (fun w => R.gtr (hF.ev rfl) (hF.ev rfl)) fun a hF => ?_
          refine dq hF rfl (wn rfl) rfl rfl (fun w => R.pickF (hF.ev rfl) (hF.ev rfl)) fun a hF => ?_
          refine d0 ?_
          exact then_n (hK13' _ _ ⟨hF.sub ⟨rfl, rfl, rfl, (congrArg (fun z => some (Value.bool z)) (by first | exact (decide_eq_true (by omega)).symm | exact (decide_eq_false (by omega)).symm | exact decide_eq_decide.2 (by omega))), trivial⟩, hS.sel [0, 1, 2, 3] rfl rfl⟩)
      refine wp_seq_k fun K21 hK21 => ?_
      refine wp_drawS hS [(0, 0), (1, 0), (2, 0), (3, 1), (4, 0), (5, 0), (6, 0), (7, 1), (8, 0), (9, 1), (10, 0)] mix (by kernel_rfl) (hP.then.then) fun w hS => ?_
      have hD := hS
      refine dq hF rfl (wn rfl) rfl rfl (fun w => R.move (hF.ev rfl)) fun a hF => ?_
      refine dq hF rfl (wn rfl) rfl rfl (fun w => R.nilCheck (hF.ev rfl)) fun a hF => ?_
      refine dq hF rfl (wn rfl) rfl rfl (fun w => R.fieldAddr (k := 0) Try.underlying81 rfl nz23 (hF.ev rfl) rfl) fun a hF => ?_
      refine dr hF rfl (wn rfl) rfl rfl hD (fun w hD => R.load one23 (hF.ev rfl) hD (.t .h) (rfl)) fun a hF => ?_
      refine dq hF rfl (wn rfl) rfl rfl (fun w => R.move (hF.ev rfl)) fun a hF => ?_
      refine dq hF rfl (wn rfl) rfl rfl (fun w => R.nilCheck (hF.ev rfl)) fun a hF => ?_
      refine dq hF rfl (wn rfl) rfl rfl (fun w => R.fieldAddr (k := 52) Try.underlying81 rfl nz3 (hF.ev rfl) rfl) fun a hF => ?_
      refine dr hF rfl (wn rfl) rfl rfl hD (fun w hD => R.load one3 (hF.ev rfl) hD (.t .h) (rfl)) fun a hF => ?_
      dsimp only at hF
      refine dq hF rfl (wn rfl) rfl rfl (fun w => R.indexO Try.underlying23 sz5 (hF.ev rfl) (Rd.ne (hD'.code.old hS) (by rw [length_byts]; omega)) (hF.ev rfl) (by omega) (by omega)) fun a hF => ?_
      refine dr hF rfl (wn rfl) rfl rfl hD (fun w hD => R.loadO one5 (hF.ev rfl) (hD'.code.old hD) (cb_at (i := V.p) (by omega) (by omega))) fun a hF => ?_
      refine dq hF rfl (wn rfl) rfl rfl (fun w => R.assign (hF.ev rfl)) fun a hF => ?_
      refine d0 ?_
      refine then_n (hK21 _ _ ?_)
      refine wp_seq_k fun K22 hK22 => ?_
      refine wp_region_lit ?_
      refine sv' hF (wn rfl) rfl rfl (R.move (hF.ev rfl)) fun a hF => ?_
      refine sv' hF (wn rfl) rfl rfl (R.eql (hF.ev rfl) (hF.ev rfl)) fun a hF => ?_
      refine sv' hF (wn rfl) rfl rfl (R.move (hF.ev rfl)) fun a hF => ?_
      refine hF.splitD (t := 64) rfl (fun h64 hF => ?_) (fun h64 hF => ?_)
      ·
        refine sk hF (ws hF rfl rfl rfl rfl) rfl rfl fun a hF => ?_
        refine sk hF (ws hF rfl rfl rfl rfl) rfl rfl fun a hF => ?_
        refine sv' hF (wn rfl) rfl rfl (R.pickT (hF.ev rfl) (hF.ev rfl)) fun a hF => ?_
        refine s0 ?_
        refine then_n (hK22 _ _ ?_)
        refine cT hF rfl ?_
        refine wp_region_lit ?_
        refine sv' hF (wn rfl) rfl rfl (R.move (hF.ev rfl)) fun a hF => ?_
        refine so (wn rfl) (O.call rfl rfl hF ent77 (hF.evs rfl) hS (operand_calls F { V with left := V.left - priceN (cAt F.code V.p) } _ _ (Rd.own0 hS (.t .h)) (hD'.code.old hS) hK.byt hK.len (size_2 (p := V.p) hs0 (by omega))) fun v s69 a w hR hF hS => ?_)
        obtain ⟨rfl, rfl⟩ := hR
        dsimp only at hF
        refine sv' hF (wn rfl) rfl rfl (R.addI (hF.ev rfl) (hF.ev rfl) (by omega)) fun a hF => ?_
        refine sv' hF (wn rfl) rfl rfl (R.assign (hF.ev rfl)) fun a hF => ?_
        refine s0 ?_
        exact then_n (hK11' _ _ ⟨cAt F.code (V.p + 1) + 1, hF.sub ⟨rfl, rfl, rfl, (congrArg (fun z => some (Value.int .i64 z)) (by omega)), trivial⟩, hS.sel [2, 3, 1, 4] rfl rfl, (if_pos (by omega)).symm⟩)
      ·
        refine sv' hF (wy hF rfl rfl rfl) rfl rfl (R.move (hF.ev rfl)) fun a hF => ?_
        refine sv' hF (wy hF rfl rfl rfl) rfl rfl (R.eql (hF.ev rfl) (hF.ev rfl)) fun a hF => ?_
        refine sv' hF (wn rfl) rfl rfl (R.pickF (hF.ev rfl) (hF.ev rfl)) fun a hF => ?_
        refine s0 ?_
        refine then_n (hK22 _ _ ?_)
        refine cD hF rfl (fun c3 => ?_) (fun c3 => ?_)
        ·
          refine wp_region_lit ?_
          refine sv' hF (wn rfl) rfl rfl (R.move (hF.ev rfl)) fun a hF => ?_
          refine so (wn rfl) (O.call rfl rfl hF ent77 (hF.evs rfl) hS (operand_calls F { V with left := V.left - priceN (cAt F.code V.p) } _ _ (Rd.own0 hS (.t .h)) (hD'.code.old hS) hK.byt hK.len (size_2 (p := V.p) hs0 (by omega))) fun v s69 a w hR hF hS => ?_)
          obtain ⟨rfl, rfl⟩ := hR
          dsimp only at hF
          refine sv' hF (wn rfl) rfl rfl (R.addI (hF.ev rfl) (hF.ev rfl) (by omega)) fun a hF => ?_
          refine sv' hF (wn rfl) rfl rfl (R.assign (hF.ev rfl)) fun a hF => ?_
          refine s0 ?_
          exact then_n (hK11' _ _ ⟨cAt F.code (V.p + 1) + 1, hF.sub ⟨rfl, rfl, rfl, (congrArg (fun z => some (Value.int .i64 z)) (by omega)), trivial⟩, hS.sel [2, 3, 1, 4] rfl rfl, (if_pos (by omega)).symm⟩)
        ·
          refine wp_skip ?_
          exact then_n (hK11' _ _ ⟨takesN (cAt F.code V.p), hF.sub ⟨rfl, rfl, rfl, (congrArg (fun z => some (Value.int .i64 z)) (by omega)), trivial⟩, hS.sel [1, 2, 0, 3] rfl rfl, (if_neg (by omega)).symm⟩)
end Go.Proofs.Ytlapmbkfmbkdoaa
end
section
namespace Go.Proofs.Ytlapmbkfmbkdoaa
open Go Go.Fw Go.RowKit
attribute [local irreducible] Go.Oper.wp Go.Code.wp Go.wpList Go.Fw.WL Go.Calls
theorem R.ifaceNil {P : Program} {w : World} {ρ : Operand → Value} {dst : Option Tmp} {ty : TypeId} {pos : String} {af : Array Edge} {g : Option (Nat × Bool)} {x y : Operand} {T T' t : TypeId} {u : Value} {ms : Array (String × TypeId)} (hT : P.underlying T = some (.interface ms)) (hx : ρ x = .iface t u) (hy : ρ y = .nilIface) :
    (execOp ρ ⟨dst, .binOp .eql T x y T', ty, pos, af, g⟩).run P w = .ok (.value (.bool false)) w := by
  have e : ∀ d, (Op.equalIn (d + 1) T (.iface t u) .nilIface).run P w = .ok false w := fun d => by simp [Op.equalIn, run_underlying hT, Sem.run_bind]
  have e2 : (Op.equal T (.iface t u) .nilIface).run P w = .ok false w := e (Op.maxDepth - 1)
  simp only [execOp, hx, hy, eqGuard, binOp, Sem.run_bind, e2, Sem.run_pure, Result.andThen_ok]
  simp [e2, Sem.run_bind]
theorem R.nilNil {P : Program} {w : World} {ρ : Operand → Value} {dst : Option Tmp} {ty : TypeId} {pos : String} {af : Array Edge} {g : Option (Nat × Bool)} {x : Operand} {T T' : TypeId} {ms : Array (String × TypeId)} (hT : P.underlying T = some (.interface ms)) (hx : ρ x = .nilIface) (hy : ρ (.const .nilIface) = .nilIface) :
    (execOp ρ ⟨dst, .binOp .eql T x (.const .nilIface) T', ty, pos, af, g⟩).run P w = .ok (.value (.bool true)) w := by
  have e : ∀ d, (Op.equalIn (d + 1) T .nilIface .nilIface).run P w = .ok true w := fun d => by simp [Op.equalIn, run_underlying hT, Sem.run_bind]
  have e2 : (Op.equal T .nilIface .nilIface).run P w = .ok true w := e (Op.maxDepth - 1)
  simp [execOp, hx, hy, eqGuard, binOp, Sem.run_bind, e2]
structure Fx.Ok0 (F : Fx) : Prop where
  byt : Byt F.code
  cap : F.code.length ≤ F.cc
  cap2 : F.cc ≤ 9223372036854775807
  argsW : AllW F.cl.args
  acap : F.cl.args.length ≤ F.ac
  acap2 : F.ac ≤ 9223372036854775807
  self : ∀ i, F.cl.self i < 256
  caller : ∀ i, F.cl.caller i < 256
  amount : F.cl.amount < 115792089237316195423570985008687907853269984665640564039457584007913129639936
  reps : ∀ r ∈ F.reps, r.1 < 115792089237316195423570985008687907853269984665640564039457584007913129639936
  qlen : F.reps.length ≤ 9223372036854775807
theorem chk_len2 {xs : List Nat} (h : chkN xs = true) : xs.length ≤ 1024 := by
  unfold chkN at h
  simp only [Bool.and_eq_true, decide_eq_true_eq] at h
  exact h.1.2
theorem ok_of {F : Fx} (h : Fx.Ok0 F) (h1 : chkN F.code = true) (h2 : callOk F.cl = true) : F.Ok := ⟨chk_len2 h1, h.byt, h.cap, h.cap2, h1, h2, h.argsW, h.acap, h.acap2, h.self, h.caller, h.amount, h.reps, h.qlen⟩
def CallP (cl : Cl) : Prop := 0 ≤ cl.token ∧ cl.token < 64 ∧ cl.args.length ≤ 8 ∧ 0 ≤ cl.time ∧ cl.time ≤ 4611686018427387904 ∧ 1 ≤ cl.gas ∧ cl.gas ≤ 10000
theorem callOk_iff {cl : Cl} : callOk cl = true ↔ CallP cl := by simp [callOk, CallP, and_assoc]
theorem cb_true {cl : Cl} (h : ¬ (0 ≤ cl.token ∧ cl.token < 64 ∧ cl.args.length ≤ 8 ∧ 0 ≤ cl.time ∧ cl.time ≤ 4611686018427387904 ∧ 1 ≤ cl.gas ∧ cl.gas ≤ 10000)) : some (Value.bool true) = some (.bool (!callOk cl)) := by
  cases hc : callOk cl with
  | false => rfl
  | true => exact absurd (callOk_iff.1 hc) h
theorem cb_dec {cl : Cl} {p : Prop} [Decidable p] (h : p ↔ ¬ (0 ≤ cl.token ∧ cl.token < 64 ∧ cl.args.length ≤ 8 ∧ 0 ≤ cl.time ∧ cl.time ≤ 4611686018427387904 ∧ 1 ≤ cl.gas ∧ cl.gas ≤ 10000)) : some (Value.bool (decide p)) = some (.bool (!callOk cl)) := by
  cases hc : callOk cl with
  | false => rw [decide_eq_true (h.2 fun h2 => by rw [callOk_iff.2 h2] at hc; exact absurd hc (by decide))]; rfl
  | true => rw [decide_eq_false fun h2 => h.1 h2 (callOk_iff.1 hc)]; rfl
def errO : Out → Int | .err e _ => e | _ => 0
def asksO : Out → List Fw.Ask | .more _ _ _ a => a | .fin _ _ a => a | .err _ a => a
def finO : Out → Bool | .fin _ _ _ => true | _ => false
theorem did_go {F : Fx} {V : Vr} {o : Out} {x : Value} {s' : Seg} (h : DidS F V o x s') : x = .int .i64 (errO o) ∧ ∃ s1 s2, s' = s1 ++ s2 ∧ HostS F (asksO o) s2 ∧ ((errO o ≠ 0 ∧ ∃ e a, o = .err e a) ∨ (errO o = 0 ∧ ∃ V' stk', RunS F V' stk' s1 ∧ V'.ended = (V.ended || finO o) ∧
    ((finO o = false ∧ o = .more stk' V'.left V'.next (asksO o) ∧ V'.ended = V.ended ∧ V'.value = V.value) ∨ (finO o = true ∧ o = .fin V'.value V'.left (asksO o))))) := by
  cases o with
  | more stk left p asks =>
    obtain ⟨a, V', s1, s2, b, c, d, rfl, rfl, g, i⟩ := h
    exact ⟨a, s1, s2, b, d, .inr ⟨rfl, V', stk, c, by simp [g, finO], .inl ⟨rfl, rfl, g, i⟩⟩⟩
  | fin val left asks =>
    obtain ⟨a, V', stk, s1, s2, b, c, d, rfl, g, rfl⟩ := h
    exact ⟨a, s1, s2, b, d, .inr ⟨rfl, V', stk, c, by simp [g, finO], .inr ⟨rfl, rfl⟩⟩⟩
  | err e asks =>
    obtain ⟨a, b, s1, s2, c, d⟩ := h
    exact ⟨a, s1, s2, c, d, .inl ⟨b, e, asks, rfl⟩⟩
theorem run_bad (F : Fx) (s2 : Seg) (w0 : World) (h0 : Fx.Ok0 F) (hH : HostS F [] s2) (ho : Own w0 s2) (hD' : F.Rds w0 (s2.map (·.1))) (hc : chkN F.code = false) : Ret Try.prog 18 [.slice F.cA F.code.length F.cc, .agg (callc F).toArray, .iface 53 (.pointer (some ⟨F.hb, 0, none⟩))] w0 (s2.map (·.1)) (fun x s' => x = .tuple #[.agg (wc (0) ++ [Value.int .i64 (0)]).toArray, .int .i64 (100)] ∧ HostS F ([]) s') := by
  refine fn_start Try.func18 rfl Try.ntmps18 rfl [(0, .slice F.cA F.code.length F.cc), (1, .agg (callc F).toArray), (2, .iface 53 (.pointer (some ⟨F.hb, 0, none⟩)))] ⟨rfl, rfl, rfl, trivial⟩ ?_
  intro Q a hP hF hR hN
  have hS := St.enter ho
  refine wp_seq_k fun K1 hK1 => ?_
  refine wp_region_lit ?_
  refine so (wn rfl) (O.box rfl rfl hF (hF.ev rfl) rfl hS fun b4 a w hF hS => ?_)
  refine so (wn rfl) (O.alloc rfl rfl hF ze39 rfl hS fun b6 a w hF hS => ?_)
  refine sv' hF (wn rfl) rfl rfl (R.assign (hF.ev rfl)) fun a hF => ?_
  refine s0 ?_
  refine then_n (hK1 _ _ ?_)
  refine wp_scope_straight ?_
  refine wp_seq_k fun K2 hK2 => ?_
  refine wp_block ?_
  refine wp_seq_k fun K3 hK3 => ?_
  refine wp_region_lit ?_
  refine sv' hF (wn rfl) rfl rfl (R.move (hF.ev rfl)) fun a hF => ?_
  refine sv' hF (wn rfl) rfl rfl (R.ifaceNil Try.underlying78 (hF.ev rfl) (hF.ev rfl)) fun a hF => ?_
  refine sv' hF (wn rfl) rfl rfl (R.assign (hF.ev rfl)) fun a hF => ?_
  refine s0 ?_
  refine then_n (hK3 _ _ ?_)
  refine cF hF rfl ?_
  refine wp_seq_k fun K4 hK4 => ?_
  refine wp_region_lit ?_
  refine sv' hF (wn rfl) rfl rfl (R.move (hF.ev rfl)) fun a hF => ?_
  refine so (wn rfl) (O.call rfl rfl hF ent12 (hF.evs rfl) hS (check_calls F.cA F.code.length F.cc F.code w (hD'.code.old hS) rfl h0.cap h0.cap2 h0.byt) fun v s17 a w hR hF hS => ?_)
  obtain ⟨rfl, rfl⟩ := hR
  rw [show chkV F.code = .int .i64 100 from by rw [chkV, hc]; rfl] at hF
  refine sv' hF (wn rfl) rfl rfl (R.as (u := .bool true) (R.neq (p := 100) (q := 0) (hF.ev rfl) (hF.ev rfl)) (rfl)) fun a hF => ?_
  refine sv' hF (wn rfl) rfl rfl (R.assign (hF.ev rfl)) fun a hF => ?_
  refine s0 ?_
  refine then_n (hK4 _ _ ?_)
  refine cT hF rfl ?_
  refine wp_seq_k fun K5 hK5 => ?_
  refine wp_region_lit ?_
  refine sv' hF (wn rfl) rfl rfl (R.buildStr (l := [_, _, _, _, _]) Try.underlying39 ze39 pl39 (hF.evp rfl) rfl) fun a hF => ?_
  refine so (wn rfl) (O.storeW sz39 (hF.ev rfl) (hF.ev rfl) (rfl) rfl (by simp [Value.oneCell']) hS (.t .h) (rfl) fun w hS => ?_)
  refine sv' hF (wn rfl) rfl rfl (R.assign (hF.ev rfl)) fun a hF => ?_
  refine s0 ?_
  refine then_n (hK5 _ _ ?_)
  refine wp_ret (blk_r (then_r (sc_r (hR _ _ _ _ _ hF (run_results Try.results18 (.cw hF rfl agg39 hS (.t .h) sz39 (rfl) (.t hF rfl (.nil)))) ?_))))
  exact ⟨_, s2, rfl, ⟨rfl, hH⟩, hS.one (.t (.t (.t .h)))⟩
set_option maxHeartbeats 1000000 in
theorem run_call (F : Fx) (s2 : Seg) (w0 : World) (h0 : Fx.Ok0 F) (hH : HostS F [] s2) (ho : Own w0 s2) (hD' : F.Rds w0 (s2.map (·.1))) (hc : chkN F.code = true) (hcl : callOk F.cl = false) : Ret Try.prog 18 [.slice F.cA F.code.length F.cc, .agg (callc F).toArray, .iface 53 (.pointer (some ⟨F.hb, 0, none⟩))] w0 (s2.map (·.1)) (fun x s' => x = .tuple #[.agg (wc (0) ++ [Value.int .i64 (0)]).toArray, .int .i64 (101)] ∧ HostS F ([]) s') := by
  refine fn_start Try.func18 rfl Try.ntmps18 rfl [(0, .slice F.cA F.code.length F.cc), (1, .agg (callc F).toArray), (2, .iface 53 (.pointer (some ⟨F.hb, 0, none⟩)))] ⟨rfl, rfl, rfl, trivial⟩ ?_
  intro Q a hP hF hR hN
  have hS := St.enter ho
  refine wp_seq_k fun K1 hK1 => ?_
  refine wp_region_lit ?_
  refine so (wn rfl) (O.box rfl rfl hF (hF.ev rfl) rfl hS fun b4 a w hF hS => ?_)
  refine so (wn rfl) (O.alloc rfl rfl hF ze39 rfl hS fun b6 a w hF hS => ?_)
  refine sv' hF (wn rfl) rfl rfl (R.assign (hF.ev rfl)) fun a hF => ?_
  refine s0 ?_
  refine then_n (hK1 _ _ ?_)
  refine wp_scope_straight ?_
  refine wp_seq_k fun K2 hK2 => ?_
  refine wp_block ?_
  refine wp_seq_k fun K3 hK3 => ?_
  refine wp_region_lit ?_
  refine sv' hF (wn rfl) rfl rfl (R.move (hF.ev rfl)) fun a hF => ?_
  refine sv' hF (wn rfl) rfl rfl (R.ifaceNil Try.underlying78 (hF.ev rfl) (hF.ev rfl)) fun a hF => ?_
  refine sv' hF (wn rfl) rfl rfl (R.assign (hF.ev rfl)) fun a hF => ?_
  refine s0 ?_
  refine then_n (hK3 _ _ ?_)
  refine cF hF rfl ?_
  refine wp_seq_k fun K4 hK4 => ?_
  refine wp_region_lit ?_
  refine sv' hF (wn rfl) rfl rfl (R.move (hF.ev rfl)) fun a hF => ?_
  refine so (wn rfl) (O.call rfl rfl hF ent12 (hF.evs rfl) hS (check_calls F.cA F.code.length F.cc F.code w (hD'.code.old hS) rfl h0.cap h0.cap2 h0.byt) fun v s17 a w hR hF hS => ?_)
  obtain ⟨rfl, rfl⟩ := hR
  rw [show chkV F.code = .int .i64 0 from by rw [chkV, hc]; rfl] at hF
  refine sv' hF (wn rfl) rfl rfl (R.as (u := .bool false) (R.neq (p := 0) (q := 0) (hF.ev rfl) (hF.ev rfl)) (rfl)) fun a hF => ?_
  refine sv' hF (wn rfl) rfl rfl (R.assign (hF.ev rfl)) fun a hF => ?_
  refine s0 ?_
  refine then_n (hK4 _ _ ?_)
  refine cF hF rfl ?_
  refine wp_seq_k fun K5 hK5 => ?_
  have hK5' : ∀ a w, (Fr 93 [(0, .slice F.cA F.code.length F.cc), (2, .iface 53 (.pointer (some ⟨F.hb, 0, none⟩))), (4, .pointer (some ⟨b4, 0, none⟩)), (6, .pointer (some ⟨b6, 0, none⟩)), (20, .bool (!callOk F.cl))] a ∧ St w0 (s2.map (·.1)) [[(b4, Cel (callc F) 34)], [(b6, Cel [.int .u64 0, .int .u64 0, .int .u64 0, .int .u64 0, .int .i64 0] 39)], s2] w) → K5 a w := by
    rintro a w ⟨hF, hS⟩
    refine hK5 _ _ ?_
    refine cS hF rfl (fun c9 => ?_) (fun c9 => ?_)
    ·
      refine wp_seq_k fun K6 hK6 => ?_
      refine wp_region_lit ?_
      refine sv' hF (wn rfl) rfl rfl (R.buildStr (l := [_, _, _, _, _]) Try.underlying39 ze39 pl39 (hF.evp rfl) rfl) fun a hF => ?_
      refine so (wn rfl) (O.storeW sz39 (hF.ev rfl) (hF.ev rfl) (rfl) rfl (by simp [Value.oneCell']) hS (.t .h) (rfl) fun w hS => ?_)
      refine sv' hF (wn rfl) rfl rfl (R.assign (hF.ev rfl)) fun a hF => ?_
      refine s0 ?_
      refine then_n (hK6 _ _ ?_)
      refine wp_ret (blk_r (then_r (sc_r (hR _ _ _ _ _ hF (run_results Try.results18 (.cw hF rfl agg39 hS (.t .h) sz39 (rfl) (.t hF rfl (.nil)))) ?_))))
      exact ⟨_, s2, rfl, ⟨rfl, hH⟩, hS.one (.t (.t .h))⟩
    ·
      rw [hcl] at c9; exact absurd c9 (by decide)
  refine wp_region_lit ?_
  refine sv' hF (wn rfl) rfl rfl (R.fieldAddr (k := 40) Try.underlying34 rfl nz3 (hF.ev rfl) rfl) fun a hF => ?_
  refine sv' hF (wn rfl) rfl rfl (R.load one3 (hF.ev rfl) hS (.t (.t .h)) (rfl)) fun a hF => ?_
  refine sv' hF (wn rfl) rfl rfl (R.lss (hF.ev rfl) (hF.ev rfl)) fun a hF => ?_
  refine sv' hF (wn rfl) rfl rfl (R.move (hF.ev rfl)) fun a hF => ?_
  refine hF.splitD (t := 24) rfl (fun h24 hF => ?_) (fun h24 hF => ?_)
  ·
    refine sk hF (ws hF rfl rfl rfl rfl) rfl rfl fun a hF => ?_
    refine sk hF (ws hF rfl rfl rfl rfl) rfl rfl fun a hF => ?_
    refine sk hF (ws hF rfl rfl rfl rfl) rfl rfl fun a hF => ?_
    refine sv' hF (wn rfl) rfl rfl (R.pickT (hF.ev rfl) (hF.ev rfl)) fun a hF => ?_
    refine sv' hF (wn rfl) rfl rfl (R.move (hF.ev rfl)) fun a hF => ?_
    refine sk hF (ws hF rfl rfl rfl rfl) rfl rfl fun a hF => ?_
    refine sk hF (ws hF rfl rfl rfl rfl) rfl rfl fun a hF => ?_
    refine sk hF (ws hF rfl rfl rfl rfl) rfl rfl fun a hF => ?_
    refine sk hF (ws hF rfl rfl rfl rfl) rfl rfl fun a hF => ?_
    refine sv' hF (wn rfl) rfl rfl (R.pickT (hF.ev rfl) (hF.ev rfl)) fun a hF => ?_
    refine sv' hF (wn rfl) rfl rfl (R.move (hF.ev rfl)) fun a hF => ?_
    refine sk hF (ws hF rfl rfl rfl rfl) rfl rfl fun a hF => ?_
    refine sk hF (ws hF rfl rfl rfl rfl) rfl rfl fun a hF => ?_
    refine sk hF (ws hF rfl rfl rfl rfl) rfl rfl fun a hF => ?_
    refine sv' hF (wn rfl) rfl rfl (R.pickT (hF.ev rfl) (hF.ev rfl)) fun a hF => ?_
    refine sv' hF (wn rfl) rfl rfl (R.move (hF.ev rfl)) fun a hF => ?_
    refine sk hF (ws hF rfl rfl rfl rfl) rfl rfl fun a hF => ?_
    refine sk hF (ws hF rfl rfl rfl rfl) rfl rfl fun a hF => ?_
    refine sk hF (ws hF rfl rfl rfl rfl) rfl rfl fun a hF => ?_
    refine sv' hF (wn rfl) rfl rfl (R.pickT (hF.ev rfl) (hF.ev rfl)) fun a hF => ?_
    refine sv' hF (wn rfl) rfl rfl (R.move (hF.ev rfl)) fun a hF => ?_
    refine sk hF (ws hF rfl rfl rfl rfl) rfl rfl fun a hF => ?_
    refine sk hF (ws hF rfl rfl rfl rfl) rfl rfl fun a hF => ?_
    refine sk hF (ws hF rfl rfl rfl rfl) rfl rfl fun a hF => ?_
    refine sv' hF (wn rfl) rfl rfl (R.pickT (hF.ev rfl) (hF.ev rfl)) fun a hF => ?_
    refine sv' hF (wn rfl) rfl rfl (R.move (hF.ev rfl)) fun a hF => ?_
    refine sk hF (ws hF rfl rfl rfl rfl) rfl rfl fun a hF => ?_
    refine sk hF (ws hF rfl rfl rfl rfl) rfl rfl fun a hF => ?_
    refine sk hF (ws hF rfl rfl rfl rfl) rfl rfl fun a hF => ?_
    refine sv' hF (wn rfl) rfl rfl (R.pickT (hF.ev rfl) (hF.ev rfl)) fun a hF => ?_
    refine sv' hF (wn rfl) rfl rfl (R.assign (hF.ev rfl)) fun a hF => ?_
    refine s0 ?_
    exact then_n (hK5' _ _ ⟨hF.sub ⟨rfl, rfl, rfl, rfl, (by first | exact cb_true (by omega) | exact cb_dec (by omega)), trivial⟩, hS.sel [2, 1, 3] rfl rfl⟩)
  ·
    refine sv' hF (wy hF rfl rfl rfl) rfl rfl (R.fieldAddr (k := 40) Try.underlying34 rfl nz3 (hF.ev rfl) rfl) fun a hF => ?_
    refine sv' hF (wy hF rfl rfl rfl) rfl rfl (R.load one3 (hF.ev rfl) hS (.t (.t .h)) (rfl)) fun a hF => ?_
    refine sv' hF (wy hF rfl rfl rfl) rfl rfl (R.geq (hF.ev rfl) (hF.ev rfl)) fun a hF => ?_
    refine sv' hF (wn rfl) rfl rfl (R.pickF (hF.ev rfl) (hF.ev rfl)) fun a hF => ?_
    refine sv' hF (wn rfl) rfl rfl (R.move (hF.ev rfl)) fun a hF => ?_
    refine hF.splitD (t := 29) rfl (fun h29 hF => ?_) (fun h29 hF => ?_)
    ·
      refine sk hF (ws hF rfl rfl rfl rfl) rfl rfl fun a hF => ?_
      refine sk hF (ws hF rfl rfl rfl rfl) rfl rfl fun a hF => ?_
      refine sk hF (ws hF rfl rfl rfl rfl) rfl rfl fun a hF => ?_
      refine sk hF (ws hF rfl rfl rfl rfl) rfl rfl fun a hF => ?_
      refine sv' hF (wn rfl) rfl rfl (R.pickT (hF.ev rfl) (hF.ev rfl)) fun a hF => ?_
      refine sv' hF (wn rfl) rfl rfl (R.move (hF.ev rfl)) fun a hF => ?_
      refine sk hF (ws hF rfl rfl rfl rfl) rfl rfl fun a hF => ?_
      refine sk hF (ws hF rfl rfl rfl rfl) rfl rfl fun a hF => ?_
      refine sk hF (ws hF rfl rfl rfl rfl) rfl rfl fun a hF => ?_
      refine sv' hF (wn rfl) rfl rfl (R.pickT (hF.ev rfl) (hF.ev rfl)) fun a hF => ?_
      refine sv' hF (wn rfl) rfl rfl (R.move (hF.ev rfl)) fun a hF => ?_
      refine sk hF (ws hF rfl rfl rfl rfl) rfl rfl fun a hF => ?_
      refine sk hF (ws hF rfl rfl rfl rfl) rfl rfl fun a hF => ?_
      refine sk hF (ws hF rfl rfl rfl rfl) rfl rfl fun a hF => ?_
      refine sv' hF (wn rfl) rfl rfl (R.pickT (hF.ev rfl) (hF.ev rfl)) fun a hF => ?_
      refine sv' hF (wn rfl) rfl rfl (R.move (hF.ev rfl)) fun a hF => ?_
      refine sk hF (ws hF rfl rfl rfl rfl) rfl rfl fun a hF => ?_
      refine sk hF (ws hF rfl rfl rfl rfl) rfl rfl fun a hF => ?_
      refine sk hF (ws hF rfl rfl rfl rfl) rfl rfl fun a hF => ?_
      refine sv' hF (wn rfl) rfl rfl (R.pickT (hF.ev rfl) (hF.ev rfl)) fun a hF => ?_
      refine sv' hF (wn rfl) rfl rfl (R.move (hF.ev rfl)) fun a hF => ?_
      refine sk hF (ws hF rfl rfl rfl rfl) rfl rfl fun a hF => ?_
      refine sk hF (ws hF rfl rfl rfl rfl) rfl rfl fun a hF => ?_
      refine sk hF (ws hF rfl rfl rfl rfl) rfl rfl fun a hF => ?_
      refine sv' hF (wn rfl) rfl rfl (R.pickT (hF.ev rfl) (hF.ev rfl)) fun a hF => ?_
      refine sv' hF (wn rfl) rfl rfl (R.assign (hF.ev rfl)) fun a hF => ?_
      refine s0 ?_
      exact then_n (hK5' _ _ ⟨hF.sub ⟨rfl, rfl, rfl, rfl, (by first | exact cb_true (by omega) | exact cb_dec (by omega)), trivial⟩, hS.sel [2, 1, 3] rfl rfl⟩)
    ·
      refine sv' hF (wy hF rfl rfl rfl) rfl rfl (R.fieldAddr (k := 45) Try.underlying34 rfl nz32 (hF.ev rfl) rfl) fun a hF => ?_
      refine sv' hF (wy hF rfl rfl rfl) rfl rfl (R.load one32 (hF.ev rfl) hS (.t (.t .h)) (rfl)) fun a hF => ?_
      refine sv' hF (wy hF rfl rfl rfl) rfl rfl (R.len Try.underlying32 (hF.ev rfl)) fun a hF => ?_
      refine sv' hF (wy hF rfl rfl rfl) rfl rfl (R.gtr (hF.ev rfl) (hF.ev rfl)) fun a hF => ?_
      refine sv' hF (wn rfl) rfl rfl (R.pickF (hF.ev rfl) (hF.ev rfl)) fun a hF => ?_
      refine sv' hF (wn rfl) rfl rfl (R.move (hF.ev rfl)) fun a hF => ?_
      refine hF.splitD (t := 35) rfl (fun h35 hF => ?_) (fun h35 hF => ?_)
      ·
        refine sk hF (ws hF rfl rfl rfl rfl) rfl rfl fun a hF => ?_
        refine sk hF (ws hF rfl rfl rfl rfl) rfl rfl fun a hF => ?_
        refine sk hF (ws hF rfl rfl rfl rfl) rfl rfl fun a hF => ?_
        refine sv' hF (wn rfl) rfl rfl (R.pickT (hF.ev rfl) (hF.ev rfl)) fun a hF => ?_
        refine sv' hF (wn rfl) rfl rfl (R.move (hF.ev rfl)) fun a hF => ?_
        refine sk hF (ws hF rfl rfl rfl rfl) rfl rfl fun a hF => ?_
        refine sk hF (ws hF rfl rfl rfl rfl) rfl rfl fun a hF => ?_
        refine sk hF (ws hF rfl rfl rfl rfl) rfl rfl fun a hF => ?_
        refine sv' hF (wn rfl) rfl rfl (R.pickT (hF.ev rfl) (hF.ev rfl)) fun a hF => ?_
        refine sv' hF (wn rfl) rfl rfl (R.move (hF.ev rfl)) fun a hF => ?_
        refine sk hF (ws hF rfl rfl rfl rfl) rfl rfl fun a hF => ?_
        refine sk hF (ws hF rfl rfl rfl rfl) rfl rfl fun a hF => ?_
        refine sk hF (ws hF rfl rfl rfl rfl) rfl rfl fun a hF => ?_
        refine sv' hF (wn rfl) rfl rfl (R.pickT (hF.ev rfl) (hF.ev rfl)) fun a hF => ?_
        refine sv' hF (wn rfl) rfl rfl (R.move (hF.ev rfl)) fun a hF => ?_
        refine sk hF (ws hF rfl rfl rfl rfl) rfl rfl fun a hF => ?_
        refine sk hF (ws hF rfl rfl rfl rfl) rfl rfl fun a hF => ?_
        refine sk hF (ws hF rfl rfl rfl rfl) rfl rfl fun a hF => ?_
        refine sv' hF (wn rfl) rfl rfl (R.pickT (hF.ev rfl) (hF.ev rfl)) fun a hF => ?_
        refine sv' hF (wn rfl) rfl rfl (R.assign (hF.ev rfl)) fun a hF => ?_
        refine s0 ?_
        exact then_n (hK5' _ _ ⟨hF.sub ⟨rfl, rfl, rfl, rfl, (by first | exact cb_true (by omega) | exact cb_dec (by omega)), trivial⟩, hS.sel [2, 1, 3] rfl rfl⟩)
      ·
        refine sv' hF (wy hF rfl rfl rfl) rfl rfl (R.fieldAddr (k := 46) Try.underlying34 rfl nz3 (hF.ev rfl) rfl) fun a hF => ?_
        refine sv' hF (wy hF rfl rfl rfl) rfl rfl (R.load one3 (hF.ev rfl) hS (.t (.t .h)) (rfl)) fun a hF => ?_
        refine sv' hF (wy hF rfl rfl rfl) rfl rfl (R.lss (hF.ev rfl) (hF.ev rfl)) fun a hF => ?_
        refine sv' hF (wn rfl) rfl rfl (R.pickF (hF.ev rfl) (hF.ev rfl)) fun a hF => ?_
        refine sv' hF (wn rfl) rfl rfl (R.move (hF.ev rfl)) fun a hF => ?_
        refine hF.splitD (t := 40) rfl (fun h40 hF => ?_) (fun h40 hF => ?_)
        ·
          refine sk hF (ws hF rfl rfl rfl rfl) rfl rfl fun a hF => ?_
          refine sk hF (ws hF rfl rfl rfl rfl) rfl rfl fun a hF => ?_
          refine sk hF (ws hF rfl rfl rfl rfl) rfl rfl fun a hF => ?_
          refine sv' hF (wn rfl) rfl rfl (R.pickT (hF.ev rfl) (hF.ev rfl)) fun a hF => ?_
          refine sv' hF (wn rfl) rfl rfl (R.move (hF.ev rfl)) fun a hF => ?_
          refine sk hF (ws hF rfl rfl rfl rfl) rfl rfl fun a hF => ?_
          refine sk hF (ws hF rfl rfl rfl rfl) rfl rfl fun a hF => ?_
          refine sk hF (ws hF rfl rfl rfl rfl) rfl rfl fun a hF => ?_
          refine sv' hF (wn rfl) rfl rfl (R.pickT (hF.ev rfl) (hF.ev rfl)) fun a hF => ?_
          refine sv' hF (wn rfl) rfl rfl (R.move (hF.ev rfl)) fun a hF => ?_
          refine sk hF (ws hF rfl rfl rfl rfl) rfl rfl fun a hF => ?_
          refine sk hF (ws hF rfl rfl rfl rfl) rfl rfl fun a hF => ?_
          refine sk hF (ws hF rfl rfl rfl rfl) rfl rfl fun a hF => ?_
          refine sv' hF (wn rfl) rfl rfl (R.pickT (hF.ev rfl) (hF.ev rfl)) fun a hF => ?_
          refine sv' hF (wn rfl) rfl rfl (R.assign (hF.ev rfl)) fun a hF => ?_
          refine s0 ?_
          exact then_n (hK5' _ _ ⟨hF.sub ⟨rfl, rfl, rfl, rfl, (by first | exact cb_true (by omega) | exact cb_dec (by omega)), trivial⟩, hS.sel [2, 1, 3] rfl rfl⟩)
        ·
          refine sv' hF (wy hF rfl rfl rfl) rfl rfl (R.fieldAddr (k := 46) Try.underlying34 rfl nz3 (hF.ev rfl) rfl) fun a hF => ?_
          refine sv' hF (wy hF rfl rfl rfl) rfl rfl (R.load one3 (hF.ev rfl) hS (.t (.t .h)) (rfl)) fun a hF => ?_
          refine sv' hF (wy hF rfl rfl rfl) rfl rfl (R.gtr (hF.ev rfl) (hF.ev rfl)) fun a hF => ?_
          refine sv' hF (wn rfl) rfl rfl (R.pickF (hF.ev rfl) (hF.ev rfl)) fun a hF => ?_
          refine sv' hF (wn rfl) rfl rfl (R.move (hF.ev rfl)) fun a hF => ?_
          refine hF.splitD (t := 45) rfl (fun h45 hF => ?_) (fun h45 hF => ?_)
          ·
            refine sk hF (ws hF rfl rfl rfl rfl) rfl rfl fun a hF => ?_
            refine sk hF (ws hF rfl rfl rfl rfl) rfl rfl fun a hF => ?_
            refine sk hF (ws hF rfl rfl rfl rfl) rfl rfl fun a hF => ?_
            refine sv' hF (wn rfl) rfl rfl (R.pickT (hF.ev rfl) (hF.ev rfl)) fun a hF => ?_
            refine sv' hF (wn rfl) rfl rfl (R.move (hF.ev rfl)) fun a hF => ?_
            refine sk hF (ws hF rfl rfl rfl rfl) rfl rfl fun a hF => ?_
            refine sk hF (ws hF rfl rfl rfl rfl) rfl rfl fun a hF => ?_
            refine sk hF (ws hF rfl rfl rfl rfl) rfl rfl fun a hF => ?_
            refine sv' hF (wn rfl) rfl rfl (R.pickT (hF.ev rfl) (hF.ev rfl)) fun a hF => ?_
            refine sv' hF (wn rfl) rfl rfl (R.assign (hF.ev rfl)) fun a hF => ?_
            refine s0 ?_
            exact then_n (hK5' _ _ ⟨hF.sub ⟨rfl, rfl, rfl, rfl, (by first | exact cb_true (by omega) | exact cb_dec (by omega)), trivial⟩, hS.sel [2, 1, 3] rfl rfl⟩)
          ·
            refine sv' hF (wy hF rfl rfl rfl) rfl rfl (R.fieldAddr (k := 47) Try.underlying34 rfl nz3 (hF.ev rfl) rfl) fun a hF => ?_
            refine sv' hF (wy hF rfl rfl rfl) rfl rfl (R.load one3 (hF.ev rfl) hS (.t (.t .h)) (rfl)) fun a hF => ?_
            refine sv' hF (wy hF rfl rfl rfl) rfl rfl (R.lss (hF.ev rfl) (hF.ev rfl)) fun a hF => ?_
            refine sv' hF (wn rfl) rfl rfl (R.pickF (hF.ev rfl) (hF.ev rfl)) fun a hF => ?_
            refine sv' hF (wn rfl) rfl rfl (R.move (hF.ev rfl)) fun a hF => ?_
            refine hF.splitD (t := 50) rfl (fun h50 hF => ?_) (fun h50 hF => ?_)
            ·
              refine sk hF (ws hF rfl rfl rfl rfl) rfl rfl fun a hF => ?_
              refine sk hF (ws hF rfl rfl rfl rfl) rfl rfl fun a hF => ?_
              refine sk hF (ws hF rfl rfl rfl rfl) rfl rfl fun a hF => ?_
              refine sv' hF (wn rfl) rfl rfl (R.pickT (hF.ev rfl) (hF.ev rfl)) fun a hF => ?_
              refine sv' hF (wn rfl) rfl rfl (R.assign (hF.ev rfl)) fun a hF => ?_
              refine s0 ?_
              exact then_n (hK5' _ _ ⟨hF.sub ⟨rfl, rfl, rfl, rfl, (by first | exact cb_true (by omega) | exact cb_dec (by omega)), trivial⟩, hS.sel [2, 1, 3] rfl rfl⟩)
            ·
              refine sv' hF (wy hF rfl rfl rfl) rfl rfl (R.fieldAddr (k := 47) Try.underlying34 rfl nz3 (hF.ev rfl) rfl) fun a hF => ?_
              refine sv' hF (wy hF rfl rfl rfl) rfl rfl (R.load one3 (hF.ev rfl) hS (.t (.t .h)) (rfl)) fun a hF => ?_
              refine sv' hF (wy hF rfl rfl rfl) rfl rfl (R.gtr (hF.ev rfl) (hF.ev rfl)) fun a hF => ?_
              refine sv' hF (wn rfl) rfl rfl (R.pickF (hF.ev rfl) (hF.ev rfl)) fun a hF => ?_
              refine sv' hF (wn rfl) rfl rfl (R.assign (hF.ev rfl)) fun a hF => ?_
              refine s0 ?_
              exact then_n (hK5' _ _ ⟨hF.sub ⟨rfl, rfl, rfl, rfl, (by first | exact cb_true (by omega) | exact cb_dec (by omega)), trivial⟩, hS.sel [2, 1, 3] rfl rfl⟩)
end Go.Proofs.Ytlapmbkfmbkdoaa
end
section
namespace Go.Proofs.Ytlapmbkfmbkdoaa
open Go Go.Fw Go.RowKit
def validP (code : List Nat) (p : Nat) : Prop := p = code.length ∨ ∃ l, placesN code = some l ∧ p ∈ l
theorem plc_next {xs : List Nat} : ∀ (f p : Nat) (l : List Nat), plc xs f p = some l → p ≤ xs.length → ∀ q ∈ l, q + sizeN xs q = xs.length ∨ q + sizeN xs q ∈ l
  | 0, _, _, h, _ => by simp [plc] at h
  | f + 1, p, l, h, hp => by
    simp only [plc] at h
    split at h
    · simp at h; subst h; simp
    split at h
    · simp at h
    · rename_i h1 h2
      cases hr : plc xs f (p + sizeN xs p) with
      | none => rw [hr] at h; simp at h
      | some r =>
        rw [hr] at h
        simp only [Option.map_some, Option.some.injEq] at h
        subst h
        have hle := (sizeN_le xs p).resolve_left h2
        intro q hq
        rcases List.mem_cons.1 hq with rfl | hq
        · cases f with
          | zero => simp [plc] at hr
          | succ f =>
            by_cases he : xs.length ≤ q + sizeN xs q
            · left; omega
            · right
              simp only [plc, if_neg he] at hr
              split at hr
              · simp at hr
              · cases hr2 : plc xs f (q + sizeN xs q + sizeN xs (q + sizeN xs q)) with
                | none => rw [hr2] at hr; simp at hr
                | some r2 => rw [hr2] at hr; simp at hr; subst hr; simp
        · rcases plc_next f _ r hr hle q hq with h3 | h3
          · exact .inl h3
          · exact .inr (List.mem_cons_of_mem _ h3)
theorem places_next {xs l : List Nat} (h : placesN xs = some l) {q : Nat} (hq : q ∈ l) : validP xs (q + sizeN xs q) := by
  rcases plc_next _ _ _ h (Nat.zero_le _) q hq with h1 | h1
  · exact .inl h1
  · exact .inr ⟨l, h, h1⟩
theorem valid_0 {xs : List Nat} (h : chkN xs = true) : validP xs 0 := by
  cases hl : placesN xs with
  | none => simp [chkN, hl] at h
  | some l =>
    have h1 : 1 ≤ xs.length := by
      unfold chkN at h
      simp only [Bool.and_eq_true, decide_eq_true_eq] at h
      exact h.1.1
    refine .inr ⟨l, hl, ?_⟩
    have := hl
    unfold placesN at this
    simp only [plc] at this
    rw [if_neg (by omega)] at this
    split at this
    · simp at this
    · cases hr : plc xs xs.length (0 + sizeN xs 0) with
      | none => rw [hr] at this; simp at this
      | some r => rw [hr] at this; simp at this; subst this; simp
theorem valid_jump {xs : List Nat} (h : chkN xs = true) {p : Nat} (hp : p < xs.length) (hv : validP xs p) (hj : cAt xs p = 14 ∨ cAt xs p = 15) : validP xs (targetN xs p) := by
  rcases hv with hv | ⟨l, hl, hm⟩
  · omega
  · refine .inr ⟨l, hl, ?_⟩
    simp only [chkN, hl, Bool.and_eq_true] at h
    have := List.all_eq_true.1 h.2 p hm
    rw [isJump_of hj] at this
    simpa using this
theorem valid_size {xs : List Nat} {p : Nat} (hp : p < xs.length) (hv : validP xs p) : sizeN xs p ≠ 0 := by
  rcases hv with hv | ⟨l, hl, hm⟩
  · omega
  · exact (places_mem hl p hm).2
theorem valid_next {xs : List Nat} {p : Nat} (hp : p < xs.length) (hv : validP xs p) : validP xs (p + sizeN xs p) := by
  rcases hv with hv | ⟨l, hl, hm⟩
  · omega
  · exact places_next hl hm
theorem allW_snoc {l : List Nat} {x : Nat} (h : AllW l) (hx : x < 115792089237316195423570985008687907853269984665640564039457584007913129639936) : AllW (l ++ [x]) := by
  intro y hy
  rcases List.mem_append.1 hy with h1 | h1
  · exact h y h1
  · rw [List.mem_singleton.1 h1]; exact hx
theorem allW_set {l : List Nat} (h : AllW l) {k x : Nat} (hx : x < 115792089237316195423570985008687907853269984665640564039457584007913129639936) : AllW (l.set k x) := by
  intro y hy
  rcases List.mem_or_eq_of_mem_set hy with h1 | h1
  · exact h y h1
  · rw [h1]; exact hx
theorem rep_val {F : Fx} (h : ∀ r ∈ F.reps, r.1 < 115792089237316195423570985008687907853269984665640564039457584007913129639936) (k : Nat) : (F.rep k).1 < 115792089237316195423570985008687907853269984665640564039457584007913129639936 := by
  rw [Fx.rep, List.getD_eq_getElem?_getD]
  cases hk : F.reps[k]? with
  | none => exact (by decide)
  | some r => exact h r (List.mem_of_getElem? hk)
theorem told_val {F : Fx} (hK : F.Ok) {c b left : Nat} (hl : left ≤ 10000) : toldN F.cl c b left < 115792089237316195423570985008687907853269984665640564039457584007913129639936 := by
  have hc := callOk_tok hK.call
  unfold toldN
  repeat' split
  · exact allW_getD hK.argsW b
  · omega
  · exact numB_lt32 (by simp) (byt_range hK.caller 20)
  · exact numB_lt32 (by simp) (byt_range hK.self 20)
  · omega
  · exact hK.amount
  · omega
  · omega
theorem arith_val {c x y r : Nat} (hx : x < 115792089237316195423570985008687907853269984665640564039457584007913129639936) (h : arithN c x y = some r) : r < 115792089237316195423570985008687907853269984665640564039457584007913129639936 := by
  unfold arithN at h
  have hb : ∀ b, bit1 b ≤ 1 := fun b => by cases b <;> decide
  repeat' split at h
  all_goals first | (simp at h; done) | (simp only [Option.some.injEq] at h; subst h; first | assumption | omega | exact Nat.lt_of_le_of_lt (hb _) (by decide) | exact Nat.lt_of_le_of_lt (Nat.div_le_self _ _) hx | exact Nat.lt_of_le_of_lt (Nat.mod_le _ _) hx)
theorem do_more {F : Fx} (hK : F.Ok) {c b p left : Nat} {st : List Nat} {u : Nat → Nat} {asks : List Fw.Ask} {stk' : List Nat} {left' p' : Nat} {asks' : List Fw.Ask} (h28 : c < 28) (hW : AllW st) (hu : ∀ i, u i < 115792089237316195423570985008687907853269984665640564039457584007913129639936) (hl : left ≤ 10000)
    (hsz : c = 2 → sizeN F.code p ≤ 34) (h : doN F.cl F.code F.rep c b p left st u asks = .more stk' left' p' asks') :
    left' = left ∧ (p' = p + sizeN F.code p ∨ ((c = 14 ∨ c = 15) ∧ p' = targetN F.code p)) ∧ stk'.length = st.length + laysN c ∧ AllW stk' ∧ asks'.length ≤ asks.length + 1 ∧ (c < 24 → asks' = asks) := by
  have hb : ∀ b, bit1 b < 115792089237316195423570985008687907853269984665640564039457584007913129639936 := fun b => by cases b <;> decide
  have hcases : c = 0 ∨ c = 1 ∨ c = 2 ∨ c = 3 ∨ c = 4 ∨ c = 5 ∨ (6 ≤ c ∧ c ≤ 12) ∨ c = 13 ∨ c = 14 ∨ c = 15 ∨ (16 ≤ c ∧ c ≤ 23) ∨ 24 ≤ c := by omega
  rcases hcases with rfl | rfl | rfl | rfl | rfl | rfl | ⟨h1, h2⟩ | rfl | rfl | rfl | ⟨h1, h2⟩ | h1
  · simp [doN] at h
  · simp [doN] at h
  · simp [doN] at h
    obtain ⟨rfl, rfl, rfl, rfl⟩ := h
    exact ⟨rfl, .inl rfl, by simp [laysN], allW_snoc hW (numB_lt32 (by rw [List.length_take]; have := hsz rfl; omega) fun d hd => hK.byt d (List.drop_subset _ _ (List.take_subset _ _ hd))), by omega, fun _ => rfl⟩
  · simp [doN] at h
    obtain ⟨rfl, rfl, rfl, rfl⟩ := h
    exact ⟨rfl, .inl rfl, by simp [laysN], hW, by omega, fun _ => rfl⟩
  · rw [show doN F.cl F.code F.rep 4 b p left st u asks = .more (st ++ [st.getD (st.length - 1 - b) 0]) left (p + sizeN F.code p) asks from rfl] at h
    simp only [Out.more.injEq] at h
    obtain ⟨rfl, rfl, rfl, rfl⟩ := h
    exact ⟨rfl, .inl rfl, by simp [laysN], allW_snoc hW (allW_getD hW _), by omega, fun _ => rfl⟩
  · rw [show doN F.cl F.code F.rep 5 b p left st u asks = .more (swapN st b) left (p + sizeN F.code p) asks from rfl] at h
    simp only [Out.more.injEq] at h
    obtain ⟨rfl, rfl, rfl, rfl⟩ := h
    exact ⟨rfl, .inl rfl, by simp [laysN, swapN], allW_set (allW_set hW (allW_getD hW _)) (allW_getD hW _), by omega, fun _ => rfl⟩
  · have e : doN F.cl F.code F.rep c b p left st u asks = (match arithN c (u 0) (u 1) with | none => .err 104 asks | some r => .more (st ++ [r]) left (p + sizeN F.code p) asks) := by
      unfold doN
      rw [if_neg (by omega), if_neg (by omega), if_neg (by omega), if_neg (by omega), if_neg (by omega), if_neg (by omega), if_pos h2]
      rfl
    rw [e] at h
    cases ha : arithN c (u 0) (u 1) with
    | none => rw [ha] at h; simp at h
    | some r =>
      rw [ha] at h
      simp only [Out.more.injEq] at h
      obtain ⟨rfl, rfl, rfl, rfl⟩ := h
      have hla : laysN c = 1 := by
        have : ∀ c, c < 13 → 6 ≤ c → laysN c = 1 := by decide
        exact this c (by omega) h1
      exact ⟨rfl, .inl rfl, by simp [hla], allW_snoc hW (arith_val (hu 0) ha), by omega, fun _ => rfl⟩
  · rw [show doN F.cl F.code F.rep 13 b p left st u asks = .more (st ++ [bit1 (decide (u 0 = 0))]) left (p + sizeN F.code p) asks from rfl] at h
    simp only [Out.more.injEq] at h
    obtain ⟨rfl, rfl, rfl, rfl⟩ := h
    exact ⟨rfl, .inl rfl, by simp [laysN], allW_snoc hW (hb _), by omega, fun _ => rfl⟩
  · simp [doN] at h
    obtain ⟨rfl, rfl, rfl, rfl⟩ := h
    exact ⟨rfl, .inr ⟨.inl rfl, rfl⟩, by simp [laysN], hW, by omega, fun _ => rfl⟩
  · rw [show doN F.cl F.code F.rep 15 b p left st u asks = .more st left (if u 0 ≠ 0 then targetN F.code p else p + sizeN F.code p) asks from rfl] at h
    simp only [Out.more.injEq] at h
    obtain ⟨rfl, rfl, rfl, rfl⟩ := h
    refine ⟨rfl, ?_, by simp [laysN], hW, by omega, fun _ => rfl⟩
    split
    · exact .inr ⟨.inr rfl, rfl⟩
    · exact .inl rfl
  · have e : doN F.cl F.code F.rep c b p left st u asks = .more (st ++ [toldN F.cl c b left]) left (p + sizeN F.code p) asks := by
      unfold doN
      rw [if_neg (by omega), if_neg (by omega), if_neg (by omega), if_neg (by omega), if_neg (by omega), if_neg (by omega), if_neg (by omega), if_neg (by omega), if_neg (by omega), if_neg (by omega), if_pos h2]
    rw [e] at h
    simp only [Out.more.injEq] at h
    obtain ⟨rfl, rfl, rfl, rfl⟩ := h
    have hla : laysN c = 1 := by
      have : ∀ c, c < 24 → 16 ≤ c → laysN c = 1 := by decide
      exact this c (by omega) h1
    exact ⟨rfl, .inl rfl, by simp [hla], allW_snoc hW (told_val hK hl), by omega, fun _ => rfl⟩
  · have e : doN F.cl F.code F.rep c b p left st u asks = (match askN c u with
      | none => .err 104 asks
      | some q => if (F.rep asks.length).2 ≠ 0 then .err (F.rep asks.length).2 (asks ++ [q]) else .more (if c = 24 ∨ c = 26 then st ++ [(F.rep asks.length).1] else st) left (p + sizeN F.code p) (asks ++ [q])) := by
      unfold doN
      rw [if_neg (by omega), if_neg (by omega), if_neg (by omega), if_neg (by omega), if_neg (by omega), if_neg (by omega), if_neg (by omega), if_neg (by omega), if_neg (by omega), if_neg (by omega), if_neg (by omega)]
      rfl
    rw [e] at h
    cases ha : askN c u with
    | none => rw [ha] at h; simp at h
    | some q =>
      rw [ha] at h
      simp only at h
      split at h
      · simp at h
      · simp only [Out.more.injEq] at h
        obtain ⟨rfl, rfl, rfl, rfl⟩ := h
        refine ⟨rfl, .inl rfl, ?_, ?_, by simp, fun h9 => by omega⟩
        · have : ∀ c, c < 28 → 24 ≤ c → laysN c = if c = 24 ∨ c = 26 then 1 else 0 := by decide
          rw [this c h28 h1]
          split <;> simp
        · split
          · exact allW_snoc hW (rep_val hK.reps _)
          · exact hW
theorem stp_more {F : Fx} (hK : F.Ok) {stk : List Nat} {left p : Nat} {asks : List Fw.Ask} {stk' : List Nat} {left' p' : Nat} {asks' : List Fw.Ask} (hv : validP F.code p) (hl : stk.length ≤ 64) (hW : AllW stk) (hq : left ≤ 10000)
    (h : stp F.cl F.code F.rep stk left p asks = .more stk' left' p' asks') : validP F.code p' ∧ stk'.length ≤ 64 ∧ AllW stk' ∧ left' < left ∧ asks'.length + left' ≤ asks.length + left := by
  by_cases h1 : F.code.length ≤ p
  · rw [stp_end h1] at h; simp at h
  have hp : p < F.code.length := by omega
  have hs := valid_size hp hv
  have h28 := size_28 hs
  have hsm := take_small _ h28
  have htd : takesN (cAt F.code p) ≤ deepN F.code p := deep_le
  by_cases h2 : left < priceN (cAt F.code p)
  · rw [stp_gas hp h2] at h; simp at h
  by_cases h3 : stk.length < deepN F.code p ∨ 64 < stk.length - takesN (cAt F.code p) + laysN (cAt F.code p)
  · rw [stp_stack hp h2 h3] at h; simp at h
  rw [stp_do hp h2 h3] at h
  have hsz : cAt F.code p = 2 → sizeN F.code p ≤ 34 := fun h2 => by
    revert hs; unfold sizeN
    repeat' split
    all_goals omega
  obtain ⟨rfl, k2, k3, k4, k5, k6⟩ := do_more hK h28 (fun x hx => hW x (List.take_subset _ _ hx)) (fun i => allW_getD hW _) (by omega) hsz h
  refine ⟨?_, ?_, k4, by omega, ?_⟩
  · rcases k2 with rfl | ⟨hj, rfl⟩
    · exact valid_next hp hv
    · exact valid_jump hK.chk hp hv hj
  · rw [k3, List.length_take]; omega
  · omega
end Go.Proofs.Ytlapmbkfmbkdoaa
end
section
namespace Go.Proofs.Ytlapmbkfmbkdoaa
open Go Go.Fw Go.RowKit
attribute [local irreducible] Go.Oper.wp Go.Code.wp Go.wpList Go.Fw.WL Go.Calls
theorem runN_more {cl : Cl} {code : List Nat} {rep : Nat → Nat × Int} {f : Nat} {stk stk' : List Nat} {left p left' p' : Nat} {asks asks' : List Fw.Ask} (h : stp cl code rep stk left p asks = .more stk' left' p' asks') : Fw.runN cl code rep (f + 1) stk left p asks = Fw.runN cl code rep f stk' left' p' asks' := by
  rw [Fw.runN, h]
theorem runN_fin {cl : Cl} {code : List Nat} {rep : Nat → Nat × Int} {f : Nat} {stk : List Nat} {left p v left' : Nat} {asks asks' : List Fw.Ask} (h : stp cl code rep stk left p asks = .fin v left' asks') : Fw.runN cl code rep (f + 1) stk left p asks = ⟨v, left', 0, asks'⟩ := by
  rw [Fw.runN, h]
theorem runN_err {cl : Cl} {code : List Nat} {rep : Nat → Nat × Int} {f : Nat} {stk : List Nat} {left p : Nat} {e : Int} {asks asks' : List Fw.Ask} (h : stp cl code rep stk left p asks = .err e asks') : Fw.runN cl code rep (f + 1) stk left p asks = ⟨0, 0, e, asks'⟩ := by
  rw [Fw.runN, h]
theorem play_fin {cl : Cl} {code : List Nat} {rep : Nat → Nat × Int} (h1 : chkN code = true) (h2 : callOk cl = true) {v left : Nat} {a : List Fw.Ask} (h : Fw.runN cl code rep (cl.gas.toNat + 1) [] cl.gas.toNat 0 [] = ⟨v, left, 0, a⟩) : playN cl code rep = ⟨v, cl.gas - left, 0, a⟩ := by
  simp [playN, h1, h2, h]
theorem play_err {cl : Cl} {code : List Nat} {rep : Nat → Nat × Int} (h1 : chkN code = true) (h2 : callOk cl = true) {e : Int} (he : e ≠ 0) {a : List Fw.Ask} (h : Fw.runN cl code rep (cl.gas.toNat + 1) [] cl.gas.toNat 0 [] = ⟨0, 0, e, a⟩) : playN cl code rep = ⟨0, 0, e, a⟩ := by
  simp [playN, h1, h2, h, he]
theorem do_fin {cl : Cl} {code : List Nat} {rep : Nat → Nat × Int} {c b p left : Nat} {st : List Nat} {u : Nat → Nat} {asks : List Fw.Ask} {v l : Nat} {a : List Fw.Ask} (h : doN cl code rep c b p left st u asks = .fin v l a) : l = left ∧ v = u 0 := by
  unfold doN at h
  by_cases k0 : c = 0
  · rw [if_pos k0] at h
    cases h
  rw [if_neg k0] at h
  by_cases k1 : c = 1
  · rw [if_pos k1] at h
    injection h with h1 h2 h3; exact ⟨h2.symm, h1.symm⟩
  rw [if_neg k1] at h
  by_cases k2 : c = 2
  · rw [if_pos k2] at h
    cases h
  rw [if_neg k2] at h
  by_cases k3 : c = 3
  · rw [if_pos k3] at h
    cases h
  rw [if_neg k3] at h
  by_cases k4 : c = 4
  · rw [if_pos k4] at h
    cases h
  rw [if_neg k4] at h
  by_cases k5 : c = 5
  · rw [if_pos k5] at h
    cases h
  rw [if_neg k5] at h
  by_cases k6 : c ≤ 12
  · rw [if_pos k6] at h
    cases ha : arithN c (u 0) (u 1) with
    | none => rw [ha] at h; cases h
    | some r => rw [ha] at h; cases h
  rw [if_neg k6] at h
  by_cases k7 : c = 13
  · rw [if_pos k7] at h
    cases h
  rw [if_neg k7] at h
  by_cases k8 : c = 14
  · rw [if_pos k8] at h
    cases h
  rw [if_neg k8] at h
  by_cases k9 : c = 15
  · rw [if_pos k9] at h
    cases h
  rw [if_neg k9] at h
  by_cases k10 : c ≤ 23
  · rw [if_pos k10] at h
    cases h
  rw [if_neg k10] at h
  cases ha : askN c u with
  | none => rw [ha] at h; cases h
  | some q =>
    rw [ha] at h
    simp only at h
    by_cases k : (rep asks.length).2 ≠ 0
    · rw [if_pos k] at h; cases h
    · rw [if_neg k] at h; cases h
theorem stp_fin {cl : Cl} {code : List Nat} {rep : Nat → Nat × Int} {p left : Nat} {stk : List Nat} {asks : List Fw.Ask} {v l : Nat} {a : List Fw.Ask} (h : stp cl code rep stk left p asks = .fin v l a) : l ≤ left := by
  by_cases h1 : code.length ≤ p
  · rw [stp_end h1] at h; simp at h
  have hp : p < code.length := by omega
  by_cases h2 : left < priceN (cAt code p)
  · rw [stp_gas hp h2] at h; simp at h
  by_cases h3 : stk.length < deepN code p ∨ 64 < stk.length - takesN (cAt code p) + laysN (cAt code p)
  · rw [stp_stack hp h2 h3] at h; simp at h
  rw [stp_do hp h2 h3] at h
  have := (do_fin h).1
  omega
theorem rds_rb {F : Fx} {b : Nat} {w : World} {ks : List Nat} (h : F.Rds w ks) : ({ F with rb := b } : Fx).Rds w ks := ⟨h.code, h.args, h.reps, h.inner⟩
theorem next_rb {F : Fx} {b : Nat} (h : NextOK F) : NextOK { F with rb := b } := h
theorem ok_rb {F : Fx} {b : Nat} (h : F.Ok) : ({ F with rb := b } : Fx).Ok := ⟨h.len, h.byt, h.cap, h.cap2, h.chk, h.call, h.argsW, h.acap, h.acap2, h.self, h.caller, h.amount, h.reps, h.qlen⟩
set_option maxHeartbeats 4000000 in
theorem run_good (F : Fx) (s2 : Seg) (w0 : World) (h0 : Fx.Ok0 F) (hH : HostS F [] s2) (ho : Own w0 s2) (hD' : F.Rds w0 (s2.map (·.1))) (hNX : NextOK F) (hc : chkN F.code = true) (hcl : callOk F.cl = true) : Ret Try.prog 18 [.slice F.cA F.code.length F.cc, .agg (callc F).toArray, .iface 53 (.pointer (some ⟨F.hb, 0, none⟩))] w0 (s2.map (·.1)) (fun x s' => x = .tuple #[.agg (wc (playN F.cl F.code F.rep).v ++ [Value.int .i64 (playN F.cl F.code F.rep).gas]).toArray, .int .i64 (playN F.cl F.code F.rep).e] ∧ HostS F (playN F.cl F.code F.rep).asks s') := by
  refine fn_start Try.func18 rfl Try.ntmps18 rfl [(0, .slice F.cA F.code.length F.cc), (1, .agg (callc F).toArray), (2, .iface 53 (.pointer (some ⟨F.hb, 0, none⟩)))] ⟨rfl, rfl, rfl, trivial⟩ ?_
  intro Q a hP hF hR hN
  have hS := St.enter ho
  have hK := ok_of h0 hc hcl; have hcp := callOk_tok hcl
  refine wp_seq_k fun K1 hK1 => ?_
  refine wp_region_lit ?_
  refine so (wn rfl) (O.box rfl rfl hF (hF.ev rfl) rfl hS fun b4 a w hF hS => ?_)
  refine so (wn rfl) (O.alloc rfl rfl hF ze39 rfl hS fun b6 a w hF hS => ?_)
  refine sv' hF (wn rfl) rfl rfl (R.assign (hF.ev rfl)) fun a hF => ?_
  refine s0 ?_
  refine then_n (hK1 _ _ ?_)
  refine wp_scope_straight ?_
  refine wp_seq_k fun K2 hK2 => ?_
  refine wp_block ?_
  refine wp_seq_k fun K3 hK3 => ?_
  refine wp_region_lit ?_
  refine sv' hF (wn rfl) rfl rfl (R.move (hF.ev rfl)) fun a hF => ?_
  refine sv' hF (wn rfl) rfl rfl (R.ifaceNil Try.underlying78 (hF.ev rfl) (hF.ev rfl)) fun a hF => ?_
  refine sv' hF (wn rfl) rfl rfl (R.assign (hF.ev rfl)) fun a hF => ?_
  refine s0 ?_
  refine then_n (hK3 _ _ ?_)
  refine cF hF rfl ?_
  refine wp_seq_k fun K4 hK4 => ?_
  refine wp_region_lit ?_
  refine sv' hF (wn rfl) rfl rfl (R.move (hF.ev rfl)) fun a hF => ?_
  refine so (wn rfl) (O.call rfl rfl hF ent12 (hF.evs rfl) hS (check_calls F.cA F.code.length F.cc F.code w (hD'.code.old hS) rfl h0.cap h0.cap2 h0.byt) fun v s17 a w hR hF hS => ?_)
  obtain ⟨rfl, rfl⟩ := hR
  rw [show chkV F.code = .int .i64 0 from by rw [chkV, hc]; rfl] at hF
  refine sv' hF (wn rfl) rfl rfl (R.as (u := .bool false) (R.neq (p := 0) (q := 0) (hF.ev rfl) (hF.ev rfl)) (rfl)) fun a hF => ?_
  refine sv' hF (wn rfl) rfl rfl (R.assign (hF.ev rfl)) fun a hF => ?_
  refine s0 ?_
  refine then_n (hK4 _ _ ?_)
  refine cF hF rfl ?_
  refine wp_seq_k fun K5 hK5 => ?_
  have hK5' : ∀ a w, (Fr 93 [(0, .slice F.cA F.code.length F.cc), (2, .iface 53 (.pointer (some ⟨F.hb, 0, none⟩))), (4, .pointer (some ⟨b4, 0, none⟩)), (6, .pointer (some ⟨b6, 0, none⟩)), (20, .bool (!callOk F.cl))] a ∧ St w0 (s2.map (·.1)) [[(b4, Cel (callc F) 34)], [(b6, Cel [.int .u64 0, .int .u64 0, .int .u64 0, .int .u64 0, .int .i64 0] 39)], s2] w) → K5 a w := by
    rintro a w ⟨hF, hS⟩
    refine hK5 _ _ ?_
    refine cS hF rfl (fun c9 => ?_) (fun c9 => ?_)
    ·
      rw [hcl] at c9; exact absurd c9 (by decide)
    ·
      refine wp_skip ?_
      refine blk_n ?_
      refine then_n (hK2 _ _ ?_)
      refine wp_seq_k fun K6 hK6 => ?_
      refine wp_region_lit ?_
      refine sv' hF (wn rfl) rfl rfl (R.move (hF.ev rfl)) fun a hF => ?_
      refine sv' hF (wn rfl) rfl rfl (R.loadW agg34 (hF.ev rfl) hS .h sz34 (rfl)) fun a hF => ?_
      refine sv' hF (wn rfl) rfl rfl (R.move (hF.ev rfl)) fun a hF => ?_
      refine sv' hF (wn rfl) rfl rfl (R.fieldAddr (k := 47) Try.underlying34 rfl nz3 (hF.ev rfl) rfl) fun a hF => ?_
      refine sv' hF (wn rfl) rfl rfl (R.as (u := .int .i64 ((F.cl.gas.toNat : Nat) : Int)) (R.load one3 (hF.ev rfl) hS .h rfl) (congrArg (Value.int .i64) (by omega))) fun a hF => ?_
      refine sv' hF (wn rfl) rfl rfl (R.buildStr (l := rcells F (.slice none 0 0) ⟨F.cl.gas.toNat, 0, 0, false, 0⟩) Try.underlying81 ze81 pl81 (hF.evp rfl) (by kernel_rfl)) fun a hF => ?_
      refine so (wn rfl) (O.box rfl rfl hF (hF.ev rfl) rfl hS fun b62 a w hF hS => ?_)
      refine sv' hF (wn rfl) rfl rfl (R.assign (hF.ev rfl)) fun a hF => ?_
      refine s0 ?_
      refine then_n (hK6 _ _ ?_)
      refine wp_seq_k fun K7 hK7 => ?_
      refine wp_region_lit ?_
      refine so (wn rfl) (O.call rfl rfl hF ent37 (hF.evs rfl) hS (table_calls _) fun v s63 a w hR hF hS => ?_)
      obtain ⟨rfl, rfl⟩ := hR
      refine so (wn rfl) (O.alloc rfl rfl hF ze85 rfl hS fun b9 a w hF hS => ?_)
      refine so (wn rfl) (O.storeW sz85 (hF.ev rfl) (hF.ev rfl) (rfl) rfl (one_tab) hS .h (rfl) fun w hS => ?_)
      refine s0 ?_
      refine then_n (hK7 _ _ ?_)
      refine wp_seq_k fun K8 hK8 => ?_
      refine wp_label ?_
      refine then_n (hK8 _ _ ?_)
      refine wp_seq_k fun K9 hK9 => ?_
      refine wp_block ?_
      have hS := (hS.sel [3, 4, 0, 2, 5] rfl rfl).flat (bs' := [[(b4, Cel (callc F) 34)], [(b6, Cel [.int .u64 0, .int .u64 0, .int .u64 0, .int .u64 0, .int .i64 0] 39)], [(b9, Cel tabL 85)], [(b62, Cel (rcells F (.slice none 0 0) ⟨F.cl.gas.toNat, 0, 0, false, 0⟩) 81)] ++ s2]) (by simp [selS])
      refine wp_loop_N (fun g a w => ∃ (V : Vr) (stk : List Nat) (asks : List Fw.Ask) (s1 : Seg) (s3 : Seg) (f : Nat), V.left = g ∧ Fr 93 [(4, .pointer (some ⟨b4, 0, none⟩)), (6, .pointer (some ⟨b6, 0, none⟩)), (8, .pointer (some ⟨b62, 0, none⟩)), (9, .pointer (some ⟨b9, 0, none⟩))] a ∧ St w0 (s2.map (·.1)) [[(b4, Cel (callc F) 34)], [(b6, Cel [.int .u64 0, .int .u64 0, .int .u64 0, .int .u64 0, .int .i64 0] 39)], [(b9, Cel tabL 85)], s1 ++ s3] w ∧ (RunS { F with rb := b62 } V stk s1) ∧ (HostS { F with rb := b62 } asks s3) ∧ (V.ended = false) ∧ (V.value = 0) ∧ (validP F.code V.p) ∧ (stk.length ≤ 64) ∧ (AllW stk) ∧ (asks.length + V.left ≤ 10000) ∧ (V.left < f) ∧ (Fw.runN F.cl F.code F.rep (F.cl.gas.toNat + 1) [] F.cl.gas.toNat 0 [] = Fw.runN F.cl F.code F.rep f stk V.left V.p asks)) (F.cl.gas.toNat) ?_ ?_
      · exact ⟨⟨F.cl.gas.toNat, 0, 0, false, 0⟩, [], [], [(b62, Cel (rcells F (.slice none 0 0) ⟨F.cl.gas.toNat, 0, 0, false, 0⟩) 81)], s2, F.cl.gas.toNat + 1, rfl, hF.sub ⟨rfl, rfl, rfl, rfl, trivial⟩, hS.sel [0, 1, 2, 3] rfl rfl, ⟨none, 0, [], rfl, OwnS.nil 31 4⟩, hH, rfl, rfl, valid_0 hc, by decide, by simp [AllW], by (show 0 + F.cl.gas.toNat ≤ 10000; omega), Nat.lt_succ_self _, rfl⟩
      · rintro KL1 g a w ⟨V, stk, asks, s1, s3, f, hg1, hF, hS, hR1, hH1, hV, hV2, hp, hl, hW, hsum, hf, hrun⟩ hKL1
        obtain ⟨f', rfl⟩ : ∃ f', f = f' + 1 := ⟨f - 1, by omega⟩
        refine wp_block ?_
        refine wp_seq_k fun K10 hK10 => ?_
        refine wp_seq_k fun K11 hK11 => ?_
        refine wp_region_lit ?_
        refine sv' hF (wn rfl) rfl rfl (R.move (hF.ev rfl)) fun a hF => ?_
        refine so (wn rfl) (O.callK rfl rfl hF ent38 (hF.evs rfl) hS (step_calls { F with rb := b62 } V stk asks s1 s3 b9 w (next_rb hNX) (ok_rb hK) (fun h => valid_size h hp) hR1 hH1 (hS.own1 (.t (.t (.t .h)))) (RdK.apart (hS.sel [2, 3] rfl rfl) (Rd.own0 hS (.t (.t .h))) (List.mem_singleton.2 rfl)) (rds_rb (hD'.down hS (.t (.t (.t .h))))) hl hW (by omega) (by omega)) (fun _ => (.t (.t (.t .h)))) fun v s65 a w hR hF hS => ?_)
        have hdid : DidS { F with rb := b62 } V (stp F.cl F.code F.rep stk V.left V.p asks) _ _ := hR; clear hR; obtain ⟨rfl, s1', s3', rfl, hH3, hor⟩ := did_go hdid
        refine sv' hF (wn rfl) rfl rfl (R.assign (hF.ev rfl)) fun a hF => ?_
        refine s0 ?_
        refine then_n (hK11 _ _ ?_)
        refine wp_seq_k fun K12 hK12 => ?_
        refine wp_region_lit ?_
        refine sv' hF (wn rfl) rfl rfl (R.move (hF.ev rfl)) fun a hF => ?_
        refine sv' hF (wn rfl) rfl rfl (R.neq (hF.ev rfl) (hF.ev rfl)) fun a hF => ?_
        refine s0 ?_
        refine then_n (hK12 _ _ ?_)
        refine cD hF rfl (fun c5 => ?_) (fun c5 => ?_)
        ·
          obtain ⟨e, a', hst⟩ := (hor.resolve_right (fun h => c5 h.1)).2
          have hpl := play_err hc hcl (by rw [hst] at c5; exact c5) (hrun.trans (runN_err hst))
          rw [hst] at hF hH3
          refine wp_seq_k fun K13 hK13 => ?_
          refine wp_region_lit ?_
          refine sv' hF (wn rfl) rfl rfl (R.buildStr (l := [_, _, _, _, _]) Try.underlying39 ze39 pl39 (hF.evp rfl) rfl) fun a hF => ?_
          refine sv' hF (wn rfl) rfl rfl (R.move (hF.ev rfl)) fun a hF => ?_
          refine so (wn rfl) (O.storeW sz39 (hF.ev rfl) (hF.ev rfl) (rfl) rfl (by simp [Value.oneCell']) hS (.t .h) (rfl) fun w hS => ?_)
          refine sv' hF (wn rfl) rfl rfl (R.assign (hF.ev rfl)) fun a hF => ?_
          refine s0 ?_
          refine then_n (hK13 _ _ ?_)
          refine wp_ret (then_r (blk_r (then_r (blk_r (then_r (sc_r (hR _ _ _ _ _ hF (run_results Try.results18 (.cw hF rfl agg39 hS (.t .h) sz39 (rfl) (.t hF rfl (.nil)))) ?_)))))))
          rw [hpl]
          dsimp only
          exact ⟨_, s3', rfl, ⟨rfl, hH3⟩, ((hS.sel [3] rfl rfl).flat (bs' := [s1', s3']) (by simp [selS])).tail⟩
        ·
          have c5' : errO (stp F.cl F.code F.rep stk V.left V.p asks) = 0 := Classical.not_not.1 c5
          obtain ⟨_, V', stk', hr1, hend, hcase⟩ := hor.resolve_left (fun h => h.1 c5')
          obtain ⟨A, c, sg, rfl, hO⟩ := hr1
          have hS := (hS.sel [0, 1, 2, 3] rfl rfl).flat (bs' := [[(b4, Cel (callc F) 34)], [(b6, Cel [.int .u64 0, .int .u64 0, .int .u64 0, .int .u64 0, .int .i64 0] 39)], [(b9, Cel tabL 85)], [(b62, Cel (rcells F (.slice A stk'.length c) V') 81)], sg, s3']) (by simp [selS]; rfl)
          refine wp_skip ?_
          refine then_n (hK10 _ _ ?_)
          refine wp_seq_k fun K14 hK14 => ?_
          refine wp_seq_k fun K15 hK15 => ?_
          refine wp_region_lit ?_
          refine sv' hF (wn rfl) rfl rfl (R.move (hF.ev rfl)) fun a hF => ?_
          refine sv' hF (wn rfl) rfl rfl (R.nilCheck (hF.ev rfl)) fun a hF => ?_
          refine sv' hF (wn rfl) rfl rfl (R.fieldAddr (k := 54) Try.underlying81 rfl nz4 (hF.ev rfl) rfl) fun a hF => ?_
          refine sv' hF (wn rfl) rfl rfl (R.load one4 (hF.ev rfl) hS (.t (.t (.t .h))) (rfl)) fun a hF => ?_
          refine s0 ?_
          refine then_n (hK15 _ _ ?_)
          refine cS hF rfl (fun c6 => ?_) (fun c6 => ?_)
          ·
            obtain ⟨_, hst⟩ := hcase.resolve_left (fun h => by rw [h.2.2.1, hV] at c6; exact absurd c6 (by decide))
            have hpl := play_fin hc hcl (hrun.trans (runN_fin hst)); have hfl := stp_fin hst
            refine wp_exit (then_x (blk_miss rfl (then_x (blk_hit ?_))))
            refine then_n (hK9 _ _ ?_)
            refine wp_seq_k fun K16 hK16 => ?_
            refine wp_drawS hS [(0, 0), (1, 0), (2, 0), (3, 1), (4, 0), (5, 1), (6, 0), (7, 0), (8, 0), (9, 1), (10, 0), (11, 0), (12, 3), (13, 0)] mix (by kernel_rfl) (hP.noGoto.then) fun w hS => ?_
            have hD := hS
            refine dq hF rfl (wn rfl) rfl rfl (fun w => R.move (hF.ev rfl)) fun a hF => ?_
            refine dq hF rfl (wn rfl) rfl rfl (fun w => R.nilCheck (hF.ev rfl)) fun a hF => ?_
            refine dq hF rfl (wn rfl) rfl rfl (fun w => R.fieldAddr (k := 55) Try.underlying81 rfl nz31 (hF.ev rfl) rfl) fun a hF => ?_
            refine dr hF rfl (wn rfl) rfl rfl hD (fun w hD => R.loadA (cs := [_, _, _, _]) agg31 (hF.ev rfl) hD (.t (.t (.t .h))) sz31 rfl (getAt rfl)) fun a hF => ?_
            refine dq hF rfl (wn rfl) rfl rfl (fun w => R.fieldAddr (k := 47) Try.underlying34 rfl nz3 (hF.ev rfl) rfl) fun a hF => ?_
            refine dr hF rfl (wn rfl) rfl rfl hD (fun w hD => R.load one3 (hF.ev rfl) hD .h (rfl)) fun a hF => ?_
            refine dq hF rfl (wn rfl) rfl rfl (fun w => R.move (hF.ev rfl)) fun a hF => ?_
            refine dq hF rfl (wn rfl) rfl rfl (fun w => R.nilCheck (hF.ev rfl)) fun a hF => ?_
            refine dq hF rfl (wn rfl) rfl rfl (fun w => R.fieldAddr (k := 51) Try.underlying81 rfl nz3 (hF.ev rfl) rfl) fun a hF => ?_
            refine dr hF rfl (wn rfl) rfl rfl hD (fun w hD => R.load one3 (hF.ev rfl) hD (.t (.t (.t .h))) (rfl)) fun a hF => ?_
            refine dq hF rfl (wn rfl) rfl rfl (fun w => R.subI (hF.ev rfl) (hF.ev rfl) (by omega)) fun a hF => ?_
            refine dq hF rfl (wn rfl) rfl rfl (fun w => R.buildStr (l := [_, _, _, _, _]) Try.underlying39 ze39 pl39 (hF.evp rfl) rfl) fun a hF => ?_
            refine dw rfl (wn rfl) (O.storeW sz39 (hF.ev rfl) (hF.ev rfl) (rfl) rfl (by simp [Value.oneCell']) hS (.t .h) (rfl) fun w hS => ?_)
            refine dq hF rfl (wn rfl) rfl rfl (fun w => R.assign (hF.ev rfl)) fun a hF => ?_
            refine d0 ?_
            refine then_n (hK16 _ _ ?_)
            refine wp_ret (sc_r (hR _ _ _ _ _ hF (run_results Try.results18 (.cw hF rfl agg39 hS (.t .h) sz39 (rfl) (.t hF rfl (.nil)))) ?_))
            rw [hpl]
            dsimp only
            exact ⟨_, s3', rfl, ⟨rfl, hH3⟩, hS.one (.t (.t (.t (.t (.t .h)))))⟩
          ·
            obtain ⟨_, hst, he1, he2⟩ := hcase.resolve_right (fun h => by (have h7 := hend; rw [h.1, Bool.or_true] at h7; rw [h7] at c6; exact absurd c6 (by decide)))
            obtain ⟨kv, kl, kW, klt, ksum⟩ := stp_more hK hp hl hW (by omega) hst
            refine wp_skip ?_
            refine then_n (hK14 _ _ ?_)
            refine wp_region_lit ?_
            refine sv' hF (wn rfl) rfl rfl (R.move (hF.ev rfl)) fun a hF => ?_
            refine sv' hF (wn rfl) rfl rfl (R.move (hF.ev rfl)) fun a hF => ?_
            refine sv' hF (wn rfl) rfl rfl (R.nilCheck (hF.ev rfl)) fun a hF => ?_
            refine sv' hF (wn rfl) rfl rfl (R.fieldAddr (k := 53) Try.underlying81 rfl nz3 (hF.ev rfl) rfl) fun a hF => ?_
            refine sv' hF (wn rfl) rfl rfl (R.load one3 (hF.ev rfl) hS (.t (.t (.t .h))) (rfl)) fun a hF => ?_
            refine sv' hF (wn rfl) rfl rfl (R.nilCheck (hF.ev rfl)) fun a hF => ?_
            refine sv' hF (wn rfl) rfl rfl (R.fieldAddr (k := 52) Try.underlying81 rfl nz3 (hF.ev rfl) rfl) fun a hF => ?_
            refine so (wn rfl) (O.store sz3 (hF.ev rfl) (hF.ev rfl) rfl rfl hS (.t (.t (.t .h))) (show List.set _ _ _ = rcells F (.slice A stk'.length c) { V' with p := V'.next } from rfl) (by first | decide | omega | (show _ < 59; decide) | (show _ < 3; decide) | simp) fun w hS => ?_)
            refine s0 ?_
            refine blk_n ?_
            have hS := (hS.sel [0, 1, 2, 3, 4, 5] rfl rfl).flat (bs' := [[(b4, Cel (callc F) 34)], [(b6, Cel [.int .u64 0, .int .u64 0, .int .u64 0, .int .u64 0, .int .i64 0] 39)], [(b9, Cel tabL 85)], ([(b62, Cel (rcells F (.slice A stk'.length c) { V' with p := V'.next }) 81)] ++ sg) ++ s3']) (by simp [selS])
            refine then_n (hKL1 (V'.left) _ _ ?_ ?_)
            · omega
            · exact ⟨{ V' with p := V'.next }, stk', (asksO (stp F.cl F.code F.rep stk V.left V.p asks)), [(b62, Cel (rcells F (.slice A stk'.length c) { V' with p := V'.next }) 81)] ++ sg, s3', f', rfl, hF.sub ⟨rfl, rfl, rfl, rfl, trivial⟩, hS.sel [0, 1, 2, 3] rfl rfl, ⟨A, c, sg, rfl, hO⟩, hH3, he1.trans hV, he2.trans hV2, kv, kl, kW, by (show (asksO (stp F.cl F.code F.rep stk V.left V.p asks)).length + V'.left ≤ 10000; omega), by (show V'.left < f'; omega), hrun.trans (runN_more hst)⟩
  refine wp_region_lit ?_
  refine sv' hF (wn rfl) rfl rfl (R.fieldAddr (k := 40) Try.underlying34 rfl nz3 (hF.ev rfl) rfl) fun a hF => ?_
  refine sv' hF (wn rfl) rfl rfl (R.load one3 (hF.ev rfl) hS (.t (.t .h)) (rfl)) fun a hF => ?_
  refine sv' hF (wn rfl) rfl rfl (R.lss (hF.ev rfl) (hF.ev rfl)) fun a hF => ?_
  refine sv' hF (wn rfl) rfl rfl (R.move (hF.ev rfl)) fun a hF => ?_
  refine hF.splitD (t := 24) rfl (fun h24 hF => ?_) (fun h24 hF => ?_)
  ·
    refine sk hF (ws hF rfl rfl rfl rfl) rfl rfl fun a hF => ?_
    refine sk hF (ws hF rfl rfl rfl rfl) rfl rfl fun a hF => ?_
    refine sk hF (ws hF rfl rfl rfl rfl) rfl rfl fun a hF => ?_
    refine sv' hF (wn rfl) rfl rfl (R.pickT (hF.ev rfl) (hF.ev rfl)) fun a hF => ?_
    refine sv' hF (wn rfl) rfl rfl (R.move (hF.ev rfl)) fun a hF => ?_
    refine sk hF (ws hF rfl rfl rfl rfl) rfl rfl fun a hF => ?_
    refine sk hF (ws hF rfl rfl rfl rfl) rfl rfl fun a hF => ?_
    refine sk hF (ws hF rfl rfl rfl rfl) rfl rfl fun a hF => ?_
    refine sk hF (ws hF rfl rfl rfl rfl) rfl rfl fun a hF => ?_
    refine sv' hF (wn rfl) rfl rfl (R.pickT (hF.ev rfl) (hF.ev rfl)) fun a hF => ?_
    refine sv' hF (wn rfl) rfl rfl (R.move (hF.ev rfl)) fun a hF => ?_
    refine sk hF (ws hF rfl rfl rfl rfl) rfl rfl fun a hF => ?_
    refine sk hF (ws hF rfl rfl rfl rfl) rfl rfl fun a hF => ?_
    refine sk hF (ws hF rfl rfl rfl rfl) rfl rfl fun a hF => ?_
    refine sv' hF (wn rfl) rfl rfl (R.pickT (hF.ev rfl) (hF.ev rfl)) fun a hF => ?_
    refine sv' hF (wn rfl) rfl rfl (R.move (hF.ev rfl)) fun a hF => ?_
    refine sk hF (ws hF rfl rfl rfl rfl) rfl rfl fun a hF => ?_
    refine sk hF (ws hF rfl rfl rfl rfl) rfl rfl fun a hF => ?_
    refine sk hF (ws hF rfl rfl rfl rfl) rfl rfl fun a hF => ?_
    refine sv' hF (wn rfl) rfl rfl (R.pickT (hF.ev rfl) (hF.ev rfl)) fun a hF => ?_
    refine sv' hF (wn rfl) rfl rfl (R.move (hF.ev rfl)) fun a hF => ?_
    refine sk hF (ws hF rfl rfl rfl rfl) rfl rfl fun a hF => ?_
    refine sk hF (ws hF rfl rfl rfl rfl) rfl rfl fun a hF => ?_
    refine sk hF (ws hF rfl rfl rfl rfl) rfl rfl fun a hF => ?_
    refine sv' hF (wn rfl) rfl rfl (R.pickT (hF.ev rfl) (hF.ev rfl)) fun a hF => ?_
    refine sv' hF (wn rfl) rfl rfl (R.move (hF.ev rfl)) fun a hF => ?_
    refine sk hF (ws hF rfl rfl rfl rfl) rfl rfl fun a hF => ?_
    refine sk hF (ws hF rfl rfl rfl rfl) rfl rfl fun a hF => ?_
    refine sk hF (ws hF rfl rfl rfl rfl) rfl rfl fun a hF => ?_
    refine sv' hF (wn rfl) rfl rfl (R.pickT (hF.ev rfl) (hF.ev rfl)) fun a hF => ?_
    refine sv' hF (wn rfl) rfl rfl (R.assign (hF.ev rfl)) fun a hF => ?_
    refine s0 ?_
    exact then_n (hK5' _ _ ⟨hF.sub ⟨rfl, rfl, rfl, rfl, (by first | exact cb_true (by omega) | exact cb_dec (by omega)), trivial⟩, hS.sel [2, 1, 3] rfl rfl⟩)
  ·
    refine sv' hF (wy hF rfl rfl rfl) rfl rfl (R.fieldAddr (k := 40) Try.underlying34 rfl nz3 (hF.ev rfl) rfl) fun a hF => ?_
    refine sv' hF (wy hF rfl rfl rfl) rfl rfl (R.load one3 (hF.ev rfl) hS (.t (.t .h)) (rfl)) fun a hF => ?_
    refine sv' hF (wy hF rfl rfl rfl) rfl rfl (R.geq (hF.ev rfl) (hF.ev rfl)) fun a hF => ?_
    refine sv' hF (wn rfl) rfl rfl (R.pickF (hF.ev rfl) (hF.ev rfl)) fun a hF => ?_
    refine sv' hF (wn rfl) rfl rfl (R.move (hF.ev rfl)) fun a hF => ?_
    refine hF.splitD (t := 29) rfl (fun h29 hF => ?_) (fun h29 hF => ?_)
    ·
      refine sk hF (ws hF rfl rfl rfl rfl) rfl rfl fun a hF => ?_
      refine sk hF (ws hF rfl rfl rfl rfl) rfl rfl fun a hF => ?_
      refine sk hF (ws hF rfl rfl rfl rfl) rfl rfl fun a hF => ?_
      refine sk hF (ws hF rfl rfl rfl rfl) rfl rfl fun a hF => ?_
      refine sv' hF (wn rfl) rfl rfl (R.pickT (hF.ev rfl) (hF.ev rfl)) fun a hF => ?_
      refine sv' hF (wn rfl) rfl rfl (R.move (hF.ev rfl)) fun a hF => ?_
      refine sk hF (ws hF rfl rfl rfl rfl) rfl rfl fun a hF => ?_
      refine sk hF (ws hF rfl rfl rfl rfl) rfl rfl fun a hF => ?_
      refine sk hF (ws hF rfl rfl rfl rfl) rfl rfl fun a hF => ?_
      refine sv' hF (wn rfl) rfl rfl (R.pickT (hF.ev rfl) (hF.ev rfl)) fun a hF => ?_
      refine sv' hF (wn rfl) rfl rfl (R.move (hF.ev rfl)) fun a hF => ?_
      refine sk hF (ws hF rfl rfl rfl rfl) rfl rfl fun a hF => ?_
      refine sk hF (ws hF rfl rfl rfl rfl) rfl rfl fun a hF => ?_
      refine sk hF (ws hF rfl rfl rfl rfl) rfl rfl fun a hF => ?_
      refine sv' hF (wn rfl) rfl rfl (R.pickT (hF.ev rfl) (hF.ev rfl)) fun a hF => ?_
      refine sv' hF (wn rfl) rfl rfl (R.move (hF.ev rfl)) fun a hF => ?_
      refine sk hF (ws hF rfl rfl rfl rfl) rfl rfl fun a hF => ?_
      refine sk hF (ws hF rfl rfl rfl rfl) rfl rfl fun a hF => ?_
      refine sk hF (ws hF rfl rfl rfl rfl) rfl rfl fun a hF => ?_
      refine sv' hF (wn rfl) rfl rfl (R.pickT (hF.ev rfl) (hF.ev rfl)) fun a hF => ?_
      refine sv' hF (wn rfl) rfl rfl (R.move (hF.ev rfl)) fun a hF => ?_
      refine sk hF (ws hF rfl rfl rfl rfl) rfl rfl fun a hF => ?_
      refine sk hF (ws hF rfl rfl rfl rfl) rfl rfl fun a hF => ?_
      refine sk hF (ws hF rfl rfl rfl rfl) rfl rfl fun a hF => ?_
      refine sv' hF (wn rfl) rfl rfl (R.pickT (hF.ev rfl) (hF.ev rfl)) fun a hF => ?_
      refine sv' hF (wn rfl) rfl rfl (R.assign (hF.ev rfl)) fun a hF => ?_
      refine s0 ?_
      exact then_n (hK5' _ _ ⟨hF.sub ⟨rfl, rfl, rfl, rfl, (by first | exact cb_true (by omega) | exact cb_dec (by omega)), trivial⟩, hS.sel [2, 1, 3] rfl rfl⟩)
    ·
      refine sv' hF (wy hF rfl rfl rfl) rfl rfl (R.fieldAddr (k := 45) Try.underlying34 rfl nz32 (hF.ev rfl) rfl) fun a hF => ?_
      refine sv' hF (wy hF rfl rfl rfl) rfl rfl (R.load one32 (hF.ev rfl) hS (.t (.t .h)) (rfl)) fun a hF => ?_
      refine sv' hF (wy hF rfl rfl rfl) rfl rfl (R.len Try.underlying32 (hF.ev rfl)) fun a hF => ?_
      refine sv' hF (wy hF rfl rfl rfl) rfl rfl (R.gtr (hF.ev rfl) (hF.ev rfl)) fun a hF => ?_
      refine sv' hF (wn rfl) rfl rfl (R.pickF (hF.ev rfl) (hF.ev rfl)) fun a hF => ?_
      refine sv' hF (wn rfl) rfl rfl (R.move (hF.ev rfl)) fun a hF => ?_
      refine hF.splitD (t := 35) rfl (fun h35 hF => ?_) (fun h35 hF => ?_)
      ·
        refine sk hF (ws hF rfl rfl rfl rfl) rfl rfl fun a hF => ?_
        refine sk hF (ws hF rfl rfl rfl rfl) rfl rfl fun a hF => ?_
        refine sk hF (ws hF rfl rfl rfl rfl) rfl rfl fun a hF => ?_
        refine sv' hF (wn rfl) rfl rfl (R.pickT (hF.ev rfl) (hF.ev rfl)) fun a hF => ?_
        refine sv' hF (wn rfl) rfl rfl (R.move (hF.ev rfl)) fun a hF => ?_
        refine sk hF (ws hF rfl rfl rfl rfl) rfl rfl fun a hF => ?_
        refine sk hF (ws hF rfl rfl rfl rfl) rfl rfl fun a hF => ?_
        refine sk hF (ws hF rfl rfl rfl rfl) rfl rfl fun a hF => ?_
        refine sv' hF (wn rfl) rfl rfl (R.pickT (hF.ev rfl) (hF.ev rfl)) fun a hF => ?_
        refine sv' hF (wn rfl) rfl rfl (R.move (hF.ev rfl)) fun a hF => ?_
        refine sk hF (ws hF rfl rfl rfl rfl) rfl rfl fun a hF => ?_
        refine sk hF (ws hF rfl rfl rfl rfl) rfl rfl fun a hF => ?_
        refine sk hF (ws hF rfl rfl rfl rfl) rfl rfl fun a hF => ?_
        refine sv' hF (wn rfl) rfl rfl (R.pickT (hF.ev rfl) (hF.ev rfl)) fun a hF => ?_
        refine sv' hF (wn rfl) rfl rfl (R.move (hF.ev rfl)) fun a hF => ?_
        refine sk hF (ws hF rfl rfl rfl rfl) rfl rfl fun a hF => ?_
        refine sk hF (ws hF rfl rfl rfl rfl) rfl rfl fun a hF => ?_
        refine sk hF (ws hF rfl rfl rfl rfl) rfl rfl fun a hF => ?_
        refine sv' hF (wn rfl) rfl rfl (R.pickT (hF.ev rfl) (hF.ev rfl)) fun a hF => ?_
        refine sv' hF (wn rfl) rfl rfl (R.assign (hF.ev rfl)) fun a hF => ?_
        refine s0 ?_
        exact then_n (hK5' _ _ ⟨hF.sub ⟨rfl, rfl, rfl, rfl, (by first | exact cb_true (by omega) | exact cb_dec (by omega)), trivial⟩, hS.sel [2, 1, 3] rfl rfl⟩)
      ·
        refine sv' hF (wy hF rfl rfl rfl) rfl rfl (R.fieldAddr (k := 46) Try.underlying34 rfl nz3 (hF.ev rfl) rfl) fun a hF => ?_
        refine sv' hF (wy hF rfl rfl rfl) rfl rfl (R.load one3 (hF.ev rfl) hS (.t (.t .h)) (rfl)) fun a hF => ?_
        refine sv' hF (wy hF rfl rfl rfl) rfl rfl (R.lss (hF.ev rfl) (hF.ev rfl)) fun a hF => ?_
        refine sv' hF (wn rfl) rfl rfl (R.pickF (hF.ev rfl) (hF.ev rfl)) fun a hF => ?_
        refine sv' hF (wn rfl) rfl rfl (R.move (hF.ev rfl)) fun a hF => ?_
        refine hF.splitD (t := 40) rfl (fun h40 hF => ?_) (fun h40 hF => ?_)
        ·
          refine sk hF (ws hF rfl rfl rfl rfl) rfl rfl fun a hF => ?_
          refine sk hF (ws hF rfl rfl rfl rfl) rfl rfl fun a hF => ?_
          refine sk hF (ws hF rfl rfl rfl rfl) rfl rfl fun a hF => ?_
          refine sv' hF (wn rfl) rfl rfl (R.pickT (hF.ev rfl) (hF.ev rfl)) fun a hF => ?_
          refine sv' hF (wn rfl) rfl rfl (R.move (hF.ev rfl)) fun a hF => ?_
          refine sk hF (ws hF rfl rfl rfl rfl) rfl rfl fun a hF => ?_
          refine sk hF (ws hF rfl rfl rfl rfl) rfl rfl fun a hF => ?_
          refine sk hF (ws hF rfl rfl rfl rfl) rfl rfl fun a hF => ?_
          refine sv' hF (wn rfl) rfl rfl (R.pickT (hF.ev rfl) (hF.ev rfl)) fun a hF => ?_
          refine sv' hF (wn rfl) rfl rfl (R.move (hF.ev rfl)) fun a hF => ?_
          refine sk hF (ws hF rfl rfl rfl rfl) rfl rfl fun a hF => ?_
          refine sk hF (ws hF rfl rfl rfl rfl) rfl rfl fun a hF => ?_
          refine sk hF (ws hF rfl rfl rfl rfl) rfl rfl fun a hF => ?_
          refine sv' hF (wn rfl) rfl rfl (R.pickT (hF.ev rfl) (hF.ev rfl)) fun a hF => ?_
          refine sv' hF (wn rfl) rfl rfl (R.assign (hF.ev rfl)) fun a hF => ?_
          refine s0 ?_
          exact then_n (hK5' _ _ ⟨hF.sub ⟨rfl, rfl, rfl, rfl, (by first | exact cb_true (by omega) | exact cb_dec (by omega)), trivial⟩, hS.sel [2, 1, 3] rfl rfl⟩)
        ·
          refine sv' hF (wy hF rfl rfl rfl) rfl rfl (R.fieldAddr (k := 46) Try.underlying34 rfl nz3 (hF.ev rfl) rfl) fun a hF => ?_
          refine sv' hF (wy hF rfl rfl rfl) rfl rfl (R.load one3 (hF.ev rfl) hS (.t (.t .h)) (rfl)) fun a hF => ?_
          refine sv' hF (wy hF rfl rfl rfl) rfl rfl (R.gtr (hF.ev rfl) (hF.ev rfl)) fun a hF => ?_
          refine sv' hF (wn rfl) rfl rfl (R.pickF (hF.ev rfl) (hF.ev rfl)) fun a hF => ?_
          refine sv' hF (wn rfl) rfl rfl (R.move (hF.ev rfl)) fun a hF => ?_
          refine hF.splitD (t := 45) rfl (fun h45 hF => ?_) (fun h45 hF => ?_)
          ·
            refine sk hF (ws hF rfl rfl rfl rfl) rfl rfl fun a hF => ?_
            refine sk hF (ws hF rfl rfl rfl rfl) rfl rfl fun a hF => ?_
            refine sk hF (ws hF rfl rfl rfl rfl) rfl rfl fun a hF => ?_
            refine sv' hF (wn rfl) rfl rfl (R.pickT (hF.ev rfl) (hF.ev rfl)) fun a hF => ?_
            refine sv' hF (wn rfl) rfl rfl (R.move (hF.ev rfl)) fun a hF => ?_
            refine sk hF (ws hF rfl rfl rfl rfl) rfl rfl fun a hF => ?_
            refine sk hF (ws hF rfl rfl rfl rfl) rfl rfl fun a hF => ?_
            refine sk hF (ws hF rfl rfl rfl rfl) rfl rfl fun a hF => ?_
            refine sv' hF (wn rfl) rfl rfl (R.pickT (hF.ev rfl) (hF.ev rfl)) fun a hF => ?_
            refine sv' hF (wn rfl) rfl rfl (R.assign (hF.ev rfl)) fun a hF => ?_
            refine s0 ?_
            exact then_n (hK5' _ _ ⟨hF.sub ⟨rfl, rfl, rfl, rfl, (by first | exact cb_true (by omega) | exact cb_dec (by omega)), trivial⟩, hS.sel [2, 1, 3] rfl rfl⟩)
          ·
            refine sv' hF (wy hF rfl rfl rfl) rfl rfl (R.fieldAddr (k := 47) Try.underlying34 rfl nz3 (hF.ev rfl) rfl) fun a hF => ?_
            refine sv' hF (wy hF rfl rfl rfl) rfl rfl (R.load one3 (hF.ev rfl) hS (.t (.t .h)) (rfl)) fun a hF => ?_
            refine sv' hF (wy hF rfl rfl rfl) rfl rfl (R.lss (hF.ev rfl) (hF.ev rfl)) fun a hF => ?_
            refine sv' hF (wn rfl) rfl rfl (R.pickF (hF.ev rfl) (hF.ev rfl)) fun a hF => ?_
            refine sv' hF (wn rfl) rfl rfl (R.move (hF.ev rfl)) fun a hF => ?_
            refine hF.splitD (t := 50) rfl (fun h50 hF => ?_) (fun h50 hF => ?_)
            ·
              refine sk hF (ws hF rfl rfl rfl rfl) rfl rfl fun a hF => ?_
              refine sk hF (ws hF rfl rfl rfl rfl) rfl rfl fun a hF => ?_
              refine sk hF (ws hF rfl rfl rfl rfl) rfl rfl fun a hF => ?_
              refine sv' hF (wn rfl) rfl rfl (R.pickT (hF.ev rfl) (hF.ev rfl)) fun a hF => ?_
              refine sv' hF (wn rfl) rfl rfl (R.assign (hF.ev rfl)) fun a hF => ?_
              refine s0 ?_
              exact then_n (hK5' _ _ ⟨hF.sub ⟨rfl, rfl, rfl, rfl, (by first | exact cb_true (by omega) | exact cb_dec (by omega)), trivial⟩, hS.sel [2, 1, 3] rfl rfl⟩)
            ·
              refine sv' hF (wy hF rfl rfl rfl) rfl rfl (R.fieldAddr (k := 47) Try.underlying34 rfl nz3 (hF.ev rfl) rfl) fun a hF => ?_
              refine sv' hF (wy hF rfl rfl rfl) rfl rfl (R.load one3 (hF.ev rfl) hS (.t (.t .h)) (rfl)) fun a hF => ?_
              refine sv' hF (wy hF rfl rfl rfl) rfl rfl (R.gtr (hF.ev rfl) (hF.ev rfl)) fun a hF => ?_
              refine sv' hF (wn rfl) rfl rfl (R.pickF (hF.ev rfl) (hF.ev rfl)) fun a hF => ?_
              refine sv' hF (wn rfl) rfl rfl (R.assign (hF.ev rfl)) fun a hF => ?_
              refine s0 ?_
              exact then_n (hK5' _ _ ⟨hF.sub ⟨rfl, rfl, rfl, rfl, (by first | exact cb_true (by omega) | exact cb_dec (by omega)), trivial⟩, hS.sel [2, 1, 3] rfl rfl⟩)
end Go.Proofs.Ytlapmbkfmbkdoaa
end
section
namespace Go.Proofs.Ytlapmbkfmbkdoaa
open Go Go.Fw Go.RowKit
attribute [local irreducible] Go.Oper.wp Go.Code.wp Go.wpList Go.Fw.WL Go.Calls
theorem run_calls (F : Fx) (s2 : Seg) (w0 : World) (h0 : Fx.Ok0 F) (hH : HostS F [] s2) (ho : Own w0 s2) (hD' : F.Rds w0 (s2.map (·.1))) (hNX : NextOK F) :
    Ret Try.prog 18 [.slice F.cA F.code.length F.cc, .agg (callc F).toArray, .iface 53 (.pointer (some ⟨F.hb, 0, none⟩))] w0 (s2.map (·.1)) (fun x s' => x = .tuple #[.agg (wc (playN F.cl F.code F.rep).v ++ [Value.int .i64 (playN F.cl F.code F.rep).gas]).toArray, .int .i64 (playN F.cl F.code F.rep).e] ∧ HostS F (playN F.cl F.code F.rep).asks s') := by
  cases hc : chkN F.code with
  | false =>
    have e : playN F.cl F.code F.rep = ⟨0, 0, 100, []⟩ := by simp [playN, hc]
    rw [e]
    exact run_bad F s2 w0 h0 hH ho hD' hc
  | true =>
    cases hcl : callOk F.cl with
    | false =>
      have e : playN F.cl F.code F.rep = ⟨0, 0, 101, []⟩ := by simp [playN, hc, hcl]
      rw [e]
      exact run_call F s2 w0 h0 hH ho hD' hc hcl
    | true => exact run_good F s2 w0 h0 hH ho hD' hNX hc hcl
theorem R.mkI {P : Program} {w : World} {ρ : Operand → Value} {dst : Option Tmp} {ty : TypeId} {pos : String} {af : Array Edge} {g : Option (Nat × Bool)} {x : Operand} {T E : TypeId} {u : Value} (hT : P.underlying T = some (.pointer E)) (hx : ρ x = u) : (execOp ρ ⟨dst, .makeInterface T x, ty, pos, af, g⟩).run P w = .ok (.value (.iface T u)) w := by
  simp [execOp, hx, Instr.makeInterface, run_underlying hT, Sem.run_bind]
def innerF (F : Fx) (b : Nat) : Fx := { rb := 0, hb := b, cA := F.iA, cc := F.ic, code := F.inner, aA := none, ac := 0, cl := ⟨fun _ => 0, fun _ => 0, 0, 7, [], 0, 1000⟩, qA := none, qc := 0, reps := [], iA := none, ic := 0, inner := [] }
structure InnerOk (F : Fx) : Prop where
  byt : Byt F.inner
  cap : F.inner.length ≤ F.ic
  cap2 : F.ic ≤ 9223372036854775807
theorem next0_ok {F : Fx} (h : F.inner.length = 0) : NextOK F := fun asks q s w0 hH ho hQ _ hl => next_0 F asks q s w0 hH ho hQ hl h
theorem inner_ok {F : Fx} (h : InnerOk F) (b : Nat) : Fx.Ok0 (innerF F b) := ⟨h.byt, h.cap, h.cap2, by intro x hx; simp [innerF] at hx, Nat.zero_le _, Nat.zero_le _, fun _ => by show 0 < 256; decide, fun _ => by show 0 < 256; decide, by show 7 < _; decide, by intro r hr; simp [innerF] at hr, Nat.zero_le _⟩
set_option maxHeartbeats 2000000 in
theorem next_1 (F : Fx) (asks : List Fw.Ask) (q : Fw.Ask) (s : Seg) (w0 : World) (hH : HostS F asks s) (ho : Own w0 s) (hQ : RdK w0 (s.map (·.1)) F.qA (F.reps.flatMap repc)) (hI : RdK w0 (s.map (·.1)) F.iA (byts F.inner)) (hl : asks.length ≤ 20000) (hin : InnerOk F) : Ret Try.prog 120 [.pointer (some ⟨F.hb, 0, none⟩), .agg (askc q).toArray] w0 (s.map (·.1)) (fun v s' => v = .tuple #[wv (F.rep asks.length).1, .int .i64 (F.rep asks.length).2] ∧ HostS F (asks ++ [q]) s') := by
  refine fn_start Try.func120 rfl Try.ntmps120 rfl [(0, .pointer (some ⟨F.hb, 0, none⟩)), (1, .agg (askc q).toArray)] ⟨rfl, rfl, trivial⟩ ?_
  intro Q a hP hF hR hN
  have hS := St.enter ho
  obtain ⟨A, c, hg, hs, hO⟩ := hH; have hS := hS.flat (bs' := [[(F.hb, Cel (hcells F (.slice A asks.length c)) 55)], hg]) (by simp [hs])
  refine wp_seq_k fun K1 hK1 => ?_
  refine wp_region_lit ?_
  refine so (wn rfl) (O.box rfl rfl hF (hF.ev rfl) rfl hS fun b3 a w hF hS => ?_)
  refine so (wn rfl) (O.alloc rfl rfl hF ze31 rfl hS fun b4 a w hF hS => ?_)
  refine sv' hF (wn rfl) rfl rfl (R.assign (hF.ev rfl)) fun a hF => ?_
  refine s0 ?_
  refine then_n (hK1 _ _ ?_)
  refine wp_seq_k fun K2 hK2 => ?_
  refine wp_drawG hS (hS.sel [1, 2] rfl rfl) [(0, 0), (1, 0), (2, 0), (3, 0), (4, 1), (5, 1), (6, 2), (7, 2), (8, 0), (9, 0), (10, 3)] mix (by kernel_rfl) (hP.then) fun w hS hD => ?_
  refine dq hF rfl (wn rfl) rfl rfl (fun w => R.move (hF.ev rfl)) fun a hF => ?_
  refine dq hF rfl (wn rfl) rfl rfl (fun w => R.move (hF.ev rfl)) fun a hF => ?_
  refine dq hF rfl (wn rfl) rfl rfl (fun w => R.nilCheck (hF.ev rfl)) fun a hF => ?_
  refine dq hF rfl (wn rfl) rfl rfl (fun w => R.fieldAddr (k := 1) Try.underlying55 rfl nz40 (hF.ev rfl) rfl) fun a hF => ?_
  refine dr hF rfl (wn rfl) rfl rfl hD (fun w hD => R.load one40 (hF.ev rfl) hD (.t .h) (rfl)) fun a hF => ?_
  refine dr hF rfl (wn rfl) rfl rfl hD (fun w hD => R.loadW agg72 (hF.ev rfl) hD .h sz72 (rfl)) fun a hF => ?_
  refine dl rfl (wn rfl) (O.buildSlice (l := [_, _, _, _, _, _, _, _, _, _, _, _, _, _, _, _, _, _, _, _, _, _, _, _, _, _, _, _, _, _]) rfl rfl hF Try.underlying40 inf72 rfl rfl (hF.evp rfl) (by decide) rfl hS fun b14 a w hF hS => ⟨fun hD => hS.sel [2, 3] rfl rfl, ?_⟩)
  have hD := hS.sel [2, 3] rfl rfl
  refine dl rfl (wn rfl) (O.append rfl rfl hF Try.underlying40 inf72 rfl rfl (by decide) (hF.ev rfl) (hF.ev rfl) hS hO (fun _ => (.t (.t (.t (.t .h))))) (Rd.own0 hS .h) (rfl) (by simp [Value.oneCell']) (by unfold maxLen; omega) (by omega) fun A15 c15 s15 a w hO15 hF hS => ⟨fun hD => hS.sel [2, 3] rfl rfl, ?_⟩)
  have hD := hS.sel [2, 3] rfl rfl
  refine dq hF rfl (wn rfl) rfl rfl (fun w => R.nilCheck (hF.ev rfl)) fun a hF => ?_
  refine dq hF rfl (wn rfl) rfl rfl (fun w => R.fieldAddr (k := 1) Try.underlying55 rfl nz40 (hF.ev rfl) rfl) fun a hF => ?_
  refine dw rfl (wn rfl) (O.store sz40 (hF.ev rfl) (hF.ev rfl) rfl rfl hS (.t (.t (.t .h))) (show List.set _ _ _ = hcells F (.slice A15 (asks.length + 1) c15) from rfl) (by first | decide | omega | (show _ < 59; decide) | (show _ < 3; decide) | simp) fun w hS => ?_)
  refine d0 ?_
  refine then_n (hK2 _ _ ?_)
  refine wp_seq_k fun K3 hK3 => ?_
  have hK3' : ∀ a w, (Fr 63 [(0, .pointer (some ⟨F.hb, 0, none⟩)), (4, .pointer (some ⟨b4, 0, none⟩))] a ∧ St w0 (s.map (·.1)) [[(F.hb, Cel (hcells F (.slice A15 (asks.length + 1) c15)) 55)], s15, [(b4, Cel [.int .u64 0, .int .u64 0, .int .u64 0, .int .u64 0] 31)]] w) → K3 a w := by
    rintro a w ⟨hF, hS⟩
    refine hK3 _ _ ?_
    refine wp_seq_k fun K4 hK4 => ?_
    refine wp_seq_k fun K5 hK5 => ?_
    refine wp_drawS hS [(0, 0), (1, 0), (2, 0), (3, 1), (4, 0), (5, 0), (6, 0), (7, 0), (8, 1), (9, 0), (10, 0)] mix (by kernel_rfl) (hP.then.then) fun w hS => ?_
    have hD := hS
    refine dq hF rfl (wn rfl) rfl rfl (fun w => R.move (hF.ev rfl)) fun a hF => ?_
    refine dq hF rfl (wn rfl) rfl rfl (fun w => R.nilCheck (hF.ev rfl)) fun a hF => ?_
    refine dq hF rfl (wn rfl) rfl rfl (fun w => R.fieldAddr (k := 1) Try.underlying55 rfl nz40 (hF.ev rfl) rfl) fun a hF => ?_
    refine dr hF rfl (wn rfl) rfl rfl hD (fun w hD => R.load one40 (hF.ev rfl) hD .h (rfl)) fun a hF => ?_
    refine dq hF rfl (wn rfl) rfl rfl (fun w => R.len Try.underlying40 (hF.ev rfl)) fun a hF => ?_
    refine dq hF rfl (wn rfl) rfl rfl (fun w => R.move (hF.ev rfl)) fun a hF => ?_
    refine dq hF rfl (wn rfl) rfl rfl (fun w => R.nilCheck (hF.ev rfl)) fun a hF => ?_
    refine dq hF rfl (wn rfl) rfl rfl (fun w => R.fieldAddr (k := 0) Try.underlying55 rfl nz35 (hF.ev rfl) rfl) fun a hF => ?_
    refine dr hF rfl (wn rfl) rfl rfl hD (fun w hD => R.load one35 (hF.ev rfl) hD .h (rfl)) fun a hF => ?_
    refine dq hF rfl (wn rfl) rfl rfl (fun w => R.len Try.underlying35 (hF.ev rfl)) fun a hF => ?_
    refine dq hF rfl (wn rfl) rfl rfl (fun w => R.leq (hF.ev rfl) (hF.ev rfl)) fun a hF => ?_
    refine d0 ?_
    refine then_n (hK5 _ _ ?_)
    refine cD hF rfl (fun c2 => ?_) (fun c2 => ?_)
    ·
      refine wp_seq_k fun K6 hK6 => ?_
      refine wp_drawS hS [(0, 0), (1, 0), (2, 0), (3, 1), (4, 0), (5, 0), (6, 0), (7, 1), (8, 0), (9, 0), (10, 0), (11, 1), (12, 2), (13, 3)] mix (by kernel_rfl) (hP.then.then) fun w hS => ?_
      have hD := hS
      refine dq hF rfl (wn rfl) rfl rfl (fun w => R.move (hF.ev rfl)) fun a hF => ?_
      refine dq hF rfl (wn rfl) rfl rfl (fun w => R.nilCheck (hF.ev rfl)) fun a hF => ?_
      refine dq hF rfl (wn rfl) rfl rfl (fun w => R.fieldAddr (k := 0) Try.underlying55 rfl nz35 (hF.ev rfl) rfl) fun a hF => ?_
      refine dr hF rfl (wn rfl) rfl rfl hD (fun w hD => R.load one35 (hF.ev rfl) hD .h (rfl)) fun a hF => ?_
      refine dq hF rfl (wn rfl) rfl rfl (fun w => R.move (hF.ev rfl)) fun a hF => ?_
      refine dq hF rfl (wn rfl) rfl rfl (fun w => R.nilCheck (hF.ev rfl)) fun a hF => ?_
      refine dq hF rfl (wn rfl) rfl rfl (fun w => R.fieldAddr (k := 1) Try.underlying55 rfl nz40 (hF.ev rfl) rfl) fun a hF => ?_
      refine dr hF rfl (wn rfl) rfl rfl hD (fun w hD => R.load one40 (hF.ev rfl) hD .h (rfl)) fun a hF => ?_
      refine dq hF rfl (wn rfl) rfl rfl (fun w => R.len Try.underlying40 (hF.ev rfl)) fun a hF => ?_
      refine dq hF rfl (wn rfl) rfl rfl (fun w => R.subI (hF.ev rfl) (hF.ev rfl) (by omega)) fun a hF => ?_
      refine dq hF rfl (wn rfl) rfl rfl (fun w => R.indexO Try.underlying35 sz48 (hF.ev rfl) (Rd.ne (hQ.old hS) (by rw [reps_length]; omega)) (hF.ev rfl) (by omega) (by omega)) fun a hF => ?_
      refine dr hF rfl (wn rfl) rfl rfl hD (fun w hD => R.loadAO (cs := repc (F.reps.getD asks.length (0, 0))) agg48 (hF.ev rfl) (hQ.old hD) sz48 rfl (Nat.succ_pos _) (reps_at (k := asks.length) (by omega) (by omega))) fun a hF => ?_
      refine dl rfl (wn rfl) (O.alloc rfl rfl hF ze48 rfl hS fun b7 a w hF hS => ⟨fun hD => hS.tail, ?_⟩)
      have hD := hS.tail
      refine dw rfl (wn rfl) (O.storeW sz48 (hF.ev rfl) (hF.ev rfl) (rfl) rfl (one_repc _) hS .h (rfl) fun w hS => ?_)
      refine d0 ?_
      refine then_n (hK6 _ _ ?_)
      refine wp_seq_k fun K7 hK7 => ?_
      refine wp_drawG hS (hS.sel [0] rfl rfl) [(0, 0), (1, 1), (2, 0), (3, 1), (4, 2), (5, 0)] mix (by kernel_rfl) (hP.then.then) fun w hS hD => ?_
      refine dq hF rfl (wn rfl) rfl rfl (fun w => R.fieldAddr (k := 0) Try.underlying48 rfl nz31 (hF.ev rfl) rfl) fun a hF => ?_
      refine dr hF rfl (wn rfl) rfl rfl hD (fun w hD => R.loadA (cs := [_, _, _, _]) agg31 (hF.ev rfl) hD .h sz31 rfl (getAt rfl)) fun a hF => ?_
      refine dq hF rfl (wn rfl) rfl rfl (fun w => R.fieldAddr (k := 4) Try.underlying48 rfl nz24 (hF.ev rfl) rfl) fun a hF => ?_
      refine dr hF rfl (wn rfl) rfl rfl hD (fun w hD => R.load one24 (hF.ev rfl) hD .h (rfl)) fun a hF => ?_
      refine dl rfl (wn rfl) (O.storeW sz31 (hF.ev rfl) (hF.ev rfl) (rfl) rfl (by simp [Value.oneCell']) hS (.t (.t (.t .h))) (rfl) fun w hS => ⟨fun hD => hS.sel [0] rfl rfl, ?_⟩)
      have hD := hS.sel [0] rfl rfl
      refine dq hF rfl (wn rfl) rfl rfl (fun w => R.assign (hF.ev rfl)) fun a hF => ?_
      refine d0 ?_
      refine then_n (hK7 _ _ ?_)
      refine wp_ret (then_r (hR _ _ _ _ _ hF (run_results Try.results120 (.cw hF rfl agg31 hS (.t (.t (.t .h))) sz31 (rfl) (.t hF rfl (.nil)))) ?_))
      obtain ⟨s', h1, h2⟩ := HostS.close (F := F) (asks := asks ++ [q]) (hS.sel [1, 2] rfl rfl) (by simp) (own_ask hO15)
      exact ⟨_, s', rfl, ⟨by rw [rep_lt (k := asks.length) (by omega)]; rfl, h1⟩, h2⟩
    ·
      refine wp_skip ?_
      refine then_n (hK4 _ _ ?_)
      refine wp_seq_k fun K8 hK8 => ?_
      refine wp_region_lit ?_
      refine sv' hF (wn rfl) rfl rfl (R.buildArr (l := [_, _, _, _]) Try.underlying31 ze31 sz29 (hF.evp rfl) rfl) fun a hF => ?_
      refine so (wn rfl) (O.storeW sz31 (hF.ev rfl) (hF.ev rfl) (rfl) rfl (by simp [Value.oneCell']) hS (.t (.t .h)) (rfl) fun w hS => ?_)
      refine sv' hF (wn rfl) rfl rfl (R.assign (hF.ev rfl)) fun a hF => ?_
      refine s0 ?_
      refine then_n (hK8 _ _ ?_)
      refine wp_ret (hR _ _ _ _ _ hF (run_results Try.results120 (.cw hF rfl agg31 hS (.t (.t .h)) sz31 (rfl) (.t hF rfl (.nil)))) ?_)
      obtain ⟨s', h1, h2⟩ := HostS.close (F := F) (asks := asks ++ [q]) (hS.sel [0, 1] rfl rfl) (by simp) (own_ask hO15)
      exact ⟨_, s', rfl, ⟨by rw [rep_ge (k := asks.length) (by omega)]; rfl, h1⟩, h2⟩
  refine wp_seq_k fun K9 hK9 => ?_
  refine wp_region_lit ?_
  refine sv' hF (wn rfl) rfl rfl (R.move (hF.ev rfl)) fun a hF => ?_
  refine sv' hF (wn rfl) rfl rfl (R.nilCheck (hF.ev rfl)) fun a hF => ?_
  refine sv' hF (wn rfl) rfl rfl (R.fieldAddr (k := 2) Try.underlying55 rfl nz23 (hF.ev rfl) rfl) fun a hF => ?_
  refine sv' hF (wn rfl) rfl rfl (R.load one23 (hF.ev rfl) hS (.t (.t (.t .h))) (rfl)) fun a hF => ?_
  refine sv' hF (wn rfl) rfl rfl (R.len Try.underlying23 (hF.ev rfl)) fun a hF => ?_
  refine sv' hF (wn rfl) rfl rfl (R.gtr (hF.ev rfl) (hF.ev rfl)) fun a hF => ?_
  refine s0 ?_
  refine then_n (hK9 _ _ ?_)
  refine cD hF rfl (fun c1 => ?_) (fun c1 => ?_)
  ·
    refine wp_seq_k fun K10 hK10 => ?_
    refine wp_region_lit ?_
    refine sv' hF (wn rfl) rfl rfl (R.buildStr (l := [_, _, _]) Try.underlying55 ze55 pl55 (hF.evp rfl) rfl) fun a hF => ?_
    refine so (wn rfl) (O.box rfl rfl hF (hF.ev rfl) rfl hS fun b25 a w hF hS => ?_)
    refine sv' hF (wn rfl) rfl rfl (R.assign (hF.ev rfl)) fun a hF => ?_
    refine s0 ?_
    refine then_n (hK10 _ _ ?_)
    refine wp_region_lit ?_
    refine sv' hF (wn rfl) rfl rfl (R.move (hF.ev rfl)) fun a hF => ?_
    refine sv' hF (wn rfl) rfl rfl (R.nilCheck (hF.ev rfl)) fun a hF => ?_
    refine sv' hF (wn rfl) rfl rfl (R.fieldAddr (k := 2) Try.underlying55 rfl nz23 (hF.ev rfl) rfl) fun a hF => ?_
    refine sv' hF (wn rfl) rfl rfl (R.load one23 (hF.ev rfl) hS (.t (.t (.t (.t .h)))) (rfl)) fun a hF => ?_
    refine sv' hF (wn rfl) rfl rfl (R.buildArr (l := [_, _, _, _]) Try.underlying31 ze31 sz29 (hF.evp rfl) rfl) fun a hF => ?_
    refine sv' hF (wn rfl) rfl rfl (R.buildStr (l := callc (innerF F b25)) Try.underlying34 ze34 pl34 (hF.evp rfl) (by kernel_rfl)) fun a hF => ?_
    refine sv' hF (wn rfl) rfl rfl (R.move (hF.ev rfl)) fun a hF => ?_
    refine sv' hF (wn rfl) rfl rfl (R.mkI Try.underlying53 (hF.ev rfl)) fun a hF => ?_
    refine so (wn rfl) (O.callK rfl rfl hF ent18 (hF.evs rfl) hS (run_calls (innerF F b25) [(b25, Cel [.slice none 0 0, .slice none 0 0, .slice none 0 0] 55)] w (inner_ok hin b25) ⟨none, 0, [], rfl, OwnS.nil 72 30⟩ (hS.own1 .h) ⟨hI.down hS .h, RdK.nil _ _ _, RdK.nil _ _ _, RdK.nil _ _ _⟩ (next0_ok rfl)) (fun _ => .h) fun v s34 a w hR hF hS => ?_)
    clear hR
    refine s0 ?_
    exact then_n (hK3' _ _ ⟨hF.sub ⟨rfl, rfl, trivial⟩, hS.sel [4, 5, 2] rfl rfl⟩)
  ·
    refine wp_skip ?_
    exact then_n (hK3' _ _ ⟨hF.sub ⟨rfl, rfl, trivial⟩, hS.sel [3, 4, 1] rfl rfl⟩)
theorem next_ok {F : Fx} (hin : InnerOk F) : NextOK F := fun asks q s w0 hH ho hQ hI hl => next_1 F asks q s w0 hH ho hQ hI hl hin
end Go.Proofs.Ytlapmbkfmbkdoaa
end
section
namespace Go.Proofs.Ytlapmbkfmbkdoaa
open Go Go.Fw Go.RowKit
attribute [local irreducible] Go.Oper.wp Go.Code.wp Go.wpList Go.Fw.WL Go.Calls
def plays (F : Fx) : List Value := [.slice F.cA F.code.length F.cc, .int .u8 ((F.cl.self 0 : Nat) : Int), .int .u8 ((F.cl.self 1 : Nat) : Int), .int .u8 ((F.cl.self 2 : Nat) : Int), .int .u8 ((F.cl.self 3 : Nat) : Int), .int .u8 ((F.cl.self 4 : Nat) : Int), .int .u8 ((F.cl.self 5 : Nat) : Int), .int .u8 ((F.cl.self 6 : Nat) : Int), .int .u8 ((F.cl.self 7 : Nat) : Int), .int .u8 ((F.cl.self 8 : Nat) : Int), .int .u8 ((F.cl.self 9 : Nat) : Int), .int .u8 ((F.cl.self 10 : Nat) : Int), .int .u8 ((F.cl.self 11 : Nat) : Int), .int .u8 ((F.cl.self 12 : Nat) : Int), .int .u8 ((F.cl.self 13 : Nat) : Int), .int .u8 ((F.cl.self 14 : Nat) : Int), .int .u8 ((F.cl.self 15 : Nat) : Int), .int .u8 ((F.cl.self 16 : Nat) : Int), .int .u8 ((F.cl.self 17 : Nat) : Int), .int .u8 ((F.cl.self 18 : Nat) : Int), .int .u8 ((F.cl.self 19 : Nat) : Int), .int .u8 ((F.cl.caller 0 : Nat) : Int), .int .u8 ((F.cl.caller 1 : Nat) : Int), .int .u8 ((F.cl.caller 2 : Nat) : Int), .int .u8 ((F.cl.caller 3 : Nat) : Int), .int .u8 ((F.cl.caller 4 : Nat) : Int), .int .u8 ((F.cl.caller 5 : Nat) : Int), .int .u8 ((F.cl.caller 6 : Nat) : Int), .int .u8 ((F.cl.caller 7 : Nat) : Int), .int .u8 ((F.cl.caller 8 : Nat) : Int), .int .u8 ((F.cl.caller 9 : Nat) : Int), .int .u8 ((F.cl.caller 10 : Nat) : Int), .int .u8 ((F.cl.caller 11 : Nat) : Int), .int .u8 ((F.cl.caller 12 : Nat) : Int), .int .u8 ((F.cl.caller 13 : Nat) : Int), .int .u8 ((F.cl.caller 14 : Nat) : Int), .int .u8 ((F.cl.caller 15 : Nat) : Int), .int .u8 ((F.cl.caller 16 : Nat) : Int), .int .u8 ((F.cl.caller 17 : Nat) : Int), .int .u8 ((F.cl.caller 18 : Nat) : Int), .int .u8 ((F.cl.caller 19 : Nat) : Int), .int .i64 F.cl.token, .int .u64 ((dg F.cl.amount 0 : Nat) : Int), .int .u64 ((dg F.cl.amount 1 : Nat) : Int), .int .u64 ((dg F.cl.amount 2 : Nat) : Int), .int .u64 ((dg F.cl.amount 3 : Nat) : Int), .slice F.aA F.cl.args.length F.ac, .int .i64 F.cl.time, .int .i64 F.cl.gas, .slice F.qA F.reps.length F.qc]
theorem own_nil5 (b : Nat) : OwnS [(b, Cel [] 5)] (some ⟨b, 0, none⟩) 0 0 (byts []) 5 1 := OwnS.mk (cells := []) (rest := []) rfl (by decide) rfl (by decide)
theorem own_nil31 (b : Nat) : OwnS [(b, Cel [] 31)] (some ⟨b, 0, none⟩) 0 0 (([] : List Nat).flatMap wc) 31 4 := OwnS.mk (cells := []) (rest := []) rfl (by decide) rfl (by decide)
theorem own_nil48 (b : Nat) : OwnS [(b, Cel [] 48)] (some ⟨b, 0, none⟩) 0 0 (([] : List (Nat × Int)).flatMap repc) 48 5 := OwnS.mk (cells := []) (rest := []) rfl (by decide) rfl (by decide)
theorem one_reps (l : List (Nat × Int)) : ∀ v ∈ l.flatMap repc, v.oneCell' = true := by
  intro v hv
  obtain ⟨r, _, hr⟩ := List.mem_flatMap.1 hv
  exact one_repc r v hr
theorem RdK.ownS {w0 w : World} {ks : List Nat} {t s : Seg} {A : Option Addr} {n c sz : Nat} {cells : List Value} {E : TypeId} (hS : St w0 ks [t, s] w) (hO : OwnS t A n c cells E sz) : RdK w (s.map (·.1)) A cells := by
  refine ⟨hO.rd hS .h, fun a ha _ hm => ?_⟩
  obtain ⟨_, _, h3⟩ := hO
  rcases h3 with ⟨h5, h6, h7⟩ | ⟨g, rest, rfl, rfl, _, _⟩
  · simp_all
  · simp only [Option.some.injEq] at ha
    subst ha
    have hn := hS.nodup
    simp only [keys, List.flatten_cons, List.flatten_nil, List.append_nil, List.map_append] at hn
    exact (List.nodup_append.1 hn).2.2 _ (List.mem_map_of_mem (List.mem_singleton.2 rfl)) _ hm rfl
set_option maxHeartbeats 4000000 in
theorem lawrun_calls (F : Fx) (w0 : World) (h0 : Fx.Ok0 F) (hin : InnerOk F) (hC : Rd w0 F.cA (byts F.code)) (hA : Rd w0 F.aA (F.cl.args.flatMap wc)) (hRp : Rd w0 F.qA (F.reps.flatMap repc)) (hI : Rd w0 F.iA (byts F.inner)) (hb1 : F.code.length ≤ 140737488351232) (hb2 : F.cl.args.length ≤ 4398046510976) (hb3 : F.reps.length ≤ 3518437208781) : Ret Try.prog 15 [.agg (plays F).toArray, .slice F.iA F.inner.length F.ic] w0 [] (fun v s => ∃ A c, v = .tuple #[.agg (wc (playN F.cl F.code F.rep).v ++ [Value.int .i64 (playN F.cl F.code F.rep).gas]).toArray, .int .i64 (playN F.cl F.code F.rep).e, .slice A (playN F.cl F.code F.rep).asks.length c] ∧ OwnS s A (playN F.cl F.code F.rep).asks.length c ((playN F.cl F.code F.rep).asks.flatMap askc) 72 30) := by
  refine fn_start Try.func15 rfl Try.ntmps15 rfl [(0, .agg (plays F).toArray), (1, .slice F.iA F.inner.length F.ic)] ⟨rfl, rfl, trivial⟩ ?_
  intro Q a hP hF hR hN
  have hS := St.start w0
  refine wp_seq_k fun K1 hK1 => ?_
  refine wp_region_lit ?_
  refine so (wn rfl) (O.box rfl rfl hF (hF.ev rfl) rfl hS fun b2 a w hF hS => ?_)
  refine so (wn rfl) (O.alloc rfl rfl hF ze39 rfl hS fun b4 a w hF hS => ?_)
  refine sv' hF (wn rfl) rfl rfl (R.assign (hF.ev rfl)) fun a hF => ?_
  refine sv' hF (wn rfl) rfl rfl (R.assign (hF.ev rfl)) fun a hF => ?_
  refine s0 ?_
  refine then_n (hK1 _ _ ?_)
  refine wp_seq_k fun K2 hK2 => ?_
  refine wp_region_lit ?_
  refine so (wn rfl) (O.buildSlice (l := []) rfl rfl hF Try.underlying35 inf48 rfl rfl (hF.evp rfl) (by decide) rfl hS fun b11 a w hF hS => ?_)
  refine sv' hF (wn rfl) rfl rfl (R.fieldAddr (k := 49) Try.underlying37 rfl nz35 (hF.ev rfl) rfl) fun a hF => ?_
  refine sv' hF (wn rfl) rfl rfl (R.load one35 (hF.ev rfl) hS (.t (.t .h)) (rfl)) fun a hF => ?_
  refine so (wn rfl) (O.appendO rfl rfl hF Try.underlying35 inf48 rfl rfl (by decide) (hF.ev rfl) (hF.ev rfl) hS (own_nil48 b11) (fun _ => .h) (hRp.old hS) (reps_length _) (one_reps _) (by unfold maxLen; omega) (by omega) fun A14 c14 s14 a w hO14 hF hS => ?_)
  rw [Nat.zero_add] at hF hO14; rw [List.flatMap_nil, List.nil_append] at hO14
  refine sv' hF (wn rfl) rfl rfl (R.move (hF.ev rfl)) fun a hF => ?_
  refine sv' hF (wn rfl) rfl rfl (R.buildStr (l := [_, _, _]) Try.underlying55 ze55 pl55 (hF.evp rfl) rfl) fun a hF => ?_
  refine so (wn rfl) (O.box rfl rfl hF (hF.ev rfl) rfl hS fun b17 a w hF hS => ?_)
  refine sv' hF (wn rfl) rfl rfl (R.assign (hF.ev rfl)) fun a hF => ?_
  refine s0 ?_
  refine then_n (hK2 _ _ ?_)
  refine wp_seq_k fun K3 hK3 => ?_
  refine wp_region_lit ?_
  refine sv' hF (wn rfl) rfl rfl (R.fieldAddr (k := 1) Try.underlying37 rfl nz34 (hF.ev rfl) rfl) fun a hF => ?_
  refine sv' hF (wn rfl) rfl rfl (R.loadA (cs := [_, _, _, _, _, _, _, _, _, _, _, _, _, _, _, _, _, _, _, _, _, _, _, _, _, _, _, _, _, _, _, _, _, _, _, _, _, _, _, _, _, _, _, _, _, _, _, _]) agg34 (hF.ev rfl) hS (.t (.t (.t .h))) sz34 rfl (getAt rfl)) fun a hF => ?_
  refine so (wn rfl) (O.alloc rfl rfl hF ze34 rfl hS fun b8 a w hF hS => ?_)
  refine so (wn rfl) (O.storeW sz34 (hF.ev rfl) (hF.ev rfl) (rfl) rfl (by simp [Value.oneCell']) hS .h (rfl) fun w hS => ?_)
  refine s0 ?_
  refine then_n (hK3 _ _ ?_)
  refine wp_seq_k fun K4 hK4 => ?_
  refine wp_region_lit ?_
  refine so (wn rfl) (O.buildSlice (l := []) rfl rfl hF Try.underlying32 inf31 rfl rfl (hF.evp rfl) (by decide) rfl hS fun b20 a w hF hS => ?_)
  refine sv' hF (wn rfl) rfl rfl (R.fieldAddr (k := 1) Try.underlying37 rfl nz34 (hF.ev rfl) rfl) fun a hF => ?_
  refine sv' hF (wn rfl) rfl rfl (R.fieldAddr (k := 45) Try.underlying34 rfl nz32 (hF.ev rfl) rfl) fun a hF => ?_
  refine sv' hF (wn rfl) rfl rfl (R.load one32 (hF.ev rfl) hS (.t (.t (.t (.t (.t .h))))) (rfl)) fun a hF => ?_
  refine so (wn rfl) (O.appendO rfl rfl hF Try.underlying32 inf31 rfl rfl (by decide) (hF.ev rfl) (hF.ev rfl) hS (own_nil31 b20) (fun _ => .h) (hA.old hS) (wcs_length _) (wcs_one _) (by unfold maxLen; omega) (by omega) fun A24 c24 s24 a w hO24 hF hS => ?_)
  rw [Nat.zero_add] at hF hO24; rw [List.flatMap_nil, List.nil_append] at hO24
  refine sv' hF (wn rfl) rfl rfl (R.fieldAddr (k := 45) Try.underlying34 rfl nz32 (hF.ev rfl) rfl) fun a hF => ?_
  refine so (wn rfl) (O.store sz32 (hF.ev rfl) (hF.ev rfl) rfl rfl hS (.t .h) (show List.set _ _ _ = callc { F with aA := A24, ac := c24 } from rfl) (by first | decide | omega | (show _ < 59; decide) | (show _ < 3; decide) | simp) fun w hS => ?_)
  refine s0 ?_
  refine then_n (hK4 _ _ ?_)
  refine wp_seq_k fun K5 hK5 => ?_
  refine wp_drawN hS (hS.sel [5, 1] rfl rfl) [(1, 0), (2, 1), (4, 1), (5, 0), (6, 0), (0, 2), (3, 2), (7, 2), (8, 0), (9, 0), (10, 0), (11, 2), (12, 2), (13, 0)] (.node [(1, 0), (2, 1), (4, 1), (5, 0), (6, 0)] (.node [(0, 2)] (.node [(3, 2)] (.leaf [(7, 2), (8, 0), (9, 0), (10, 0), (11, 2), (12, 2), (13, 0)]) (.leaf [(11, 2), (7, 2), (8, 0), (9, 0), (10, 0), (12, 2), (13, 0)])) (.leaf [(11, 2), (3, 2), (7, 2), (8, 0), (9, 0), (10, 0), (12, 2), (13, 0)])) (.leaf [(11, 2), (0, 2), (3, 2), (7, 2), (8, 0), (9, 0), (10, 0), (12, 2), (13, 0)])) mix (by kernel_rfl) (hP.then) fun w hS hD => ?_
  refine dq hF rfl (wn rfl) rfl rfl (fun w => R.fieldAddr (k := 0) Try.underlying37 rfl nz23 (hF.ev rfl) rfl) fun a hF => ?_
  refine dr hF rfl (wn rfl) rfl rfl hD (fun w hD => R.load one23 (hF.ev rfl) hD .h (rfl)) fun a hF => ?_
  refine dr hF rfl (wn rfl) rfl rfl hD (fun w hD => R.loadW agg34 (hF.ev rfl) hD (.t .h) sz34 (rfl)) fun a hF => ?_
  refine dq hF rfl (wn rfl) rfl rfl (fun w => R.move (hF.ev rfl)) fun a hF => ?_
  refine dq hF rfl (wn rfl) rfl rfl (fun w => R.mkI Try.underlying53 (hF.ev rfl)) fun a hF => ?_
  refine d0 ?_
  refine ⟨?_, ?_⟩
  ·
    refine dl rfl (wn rfl) (O.buildSlice (l := []) rfl rfl hF Try.underlying23 inf5 rfl rfl (hF.evp rfl) (by decide) rfl hS fun b27 a w hF hS => ⟨fun hD => hS.sel [6, 2] rfl rfl, ?_⟩)
    have hD := hS.sel [6, 2] rfl rfl
    refine d0 ?_
    refine ⟨?_, ?_⟩
    ·
      refine dl rfl (wn rfl) (O.appendO rfl rfl hF Try.underlying23 inf5 rfl rfl (by decide) (hF.ev rfl) (hF.ev rfl) hS (own_nil5 b27) (fun _ => .h) (hC.old hS) (by rw [length_byts, Nat.mul_one]) (byts_one _) (by unfold maxLen; omega) (by omega) fun A30 c30 s30 a w hO30 hF hS => ⟨fun hD => hS.sel [6, 2] rfl rfl, ?_⟩)
      have hD := hS.sel [6, 2] rfl rfl
      rw [Nat.zero_add] at hF hO30; rw [show byts [] = [] from rfl, List.nil_append] at hO30
      refine d0 ?_
      refine ⟨?_, ?_⟩
      ·
        refine dl rfl (wn rfl) (O.callK rfl rfl hF ent18 (hF.evs rfl) hS (run_calls ({ F with hb := b17, qA := A14, qc := c14, cA := A30, cc := c30, aA := A24, ac := c24 }) [(b17, Cel (hcells ({ F with hb := b17, qA := A14, qc := c14, cA := A30, cc := c30, aA := A24, ac := c24 }) (.slice none 0 0)) 55)] w ⟨h0.byt, hO30.2.1, hO30.cap, h0.argsW, hO24.2.1, hO24.cap, h0.self, h0.caller, h0.amount, h0.reps, h0.qlen⟩ ⟨none, 0, [], rfl, OwnS.nil 72 30⟩ (hS.own1 (.t (.t (.t .h)))) ⟨RdK.ownS (hS.sel [0, 3] rfl rfl) hO30, RdK.ownS (hS.sel [1, 3] rfl rfl) hO24, RdK.ownS (hS.sel [4, 3] rfl rfl) hO14, (RdK.nok hI).down hS (.t (.t (.t .h)))⟩ (next_ok ⟨hin.byt, hin.cap, hin.cap2⟩)) (fun _ => (.t (.t (.t .h)))) fun v s34 a w hR hF hS => ⟨fun hD => hS.sel [6, 2] rfl rfl, ?_⟩)
        obtain ⟨rfl, hH4⟩ := hR
        have hD := hS.sel [6, 2] rfl rfl
        refine dq hF rfl (wn rfl) rfl rfl (fun w => R.move (hF.ev rfl)) fun a hF => ?_
        refine dq hF rfl (wn rfl) rfl rfl (fun w => R.extract (hF.ev rfl) rfl) fun a hF => ?_
        refine dq hF rfl (wn rfl) rfl rfl (fun w => R.extract (hF.ev rfl) rfl) fun a hF => ?_
        refine dl rfl (wn rfl) (O.alloc rfl rfl hF ze39 rfl hS fun b9 a w hF hS => ⟨fun hD => hS.sel [7, 3] rfl rfl, ?_⟩)
        have hD := hS.sel [7, 3] rfl rfl
        refine dl rfl (wn rfl) (O.storeW sz39 (hF.ev rfl) (hF.ev rfl) (rfl) rfl (by simp [Value.oneCell']) hS .h (rfl) fun w hS => ⟨fun hD => hS.sel [7, 3] rfl rfl, ?_⟩)
        have hD := hS.sel [7, 3] rfl rfl
        refine dq hF rfl (wn rfl) rfl rfl (fun w => R.assign (hF.ev rfl)) fun a hF => ?_
        refine d0 ?_
        refine then_n (hK5 _ _ ?_)
        refine wp_seq_k fun K6 hK6 => ?_
        obtain ⟨A5, c5, hg, rfl, hO5⟩ := hH4
        have hS := (hS.sel [0, 6, 4] rfl rfl).flat (bs' := [[(b9, Cel (wc (playN F.cl F.code F.rep).v ++ [Value.int .i64 (playN F.cl F.code F.rep).gas]) 39)], [(b4, Cel [.int .u64 0, .int .u64 0, .int .u64 0, .int .u64 0, .int .i64 0] 39)], [(b17, Cel (hcells ({ F with hb := b17, qA := A14, qc := c14, cA := A30, cc := c30, aA := A24, ac := c24 }) (.slice A5 (playN F.cl F.code F.rep).asks.length c5)) 55)], hg]) rfl
        refine wp_drawG hS (hS.sel [0, 2] rfl rfl) [(0, 1), (1, 0), (2, 0), (3, 0), (4, 0), (5, 1), (6, 2), (7, 0), (8, 0)] mix (by kernel_rfl) (hP.then) fun w hS hD => ?_
        refine dr hF rfl (wn rfl) rfl rfl hD (fun w hD => R.loadW agg39 (hF.ev rfl) hD .h sz39 (rfl)) fun a hF => ?_
        refine dq hF rfl (wn rfl) rfl rfl (fun w => R.move (hF.ev rfl)) fun a hF => ?_
        refine dq hF rfl (wn rfl) rfl rfl (fun w => R.move (hF.ev rfl)) fun a hF => ?_
        refine dq hF rfl (wn rfl) rfl rfl (fun w => R.nilCheck (hF.ev rfl)) fun a hF => ?_
        refine dq hF rfl (wn rfl) rfl rfl (fun w => R.fieldAddr (k := 1) Try.underlying55 rfl nz40 (hF.ev rfl) rfl) fun a hF => ?_
        refine dr hF rfl (wn rfl) rfl rfl hD (fun w hD => R.load one40 (hF.ev rfl) hD (.t .h) (rfl)) fun a hF => ?_
        refine dl rfl (wn rfl) (O.storeW sz39 (hF.ev rfl) (hF.ev rfl) (rfl) rfl (by simp [Value.oneCell']) hS (.t .h) (rfl) fun w hS => ⟨fun hD => hS.sel [0, 2] rfl rfl, ?_⟩)
        have hD := hS.sel [0, 2] rfl rfl
        refine dq hF rfl (wn rfl) rfl rfl (fun w => R.assign (hF.ev rfl)) fun a hF => ?_
        refine dq hF rfl (wn rfl) rfl rfl (fun w => R.assign (hF.ev rfl)) fun a hF => ?_
        refine d0 ?_
        refine then_n (hK6 _ _ ?_)
        refine wp_ret (hR _ _ _ _ _ hF (run_results Try.results15 (.cw hF rfl agg39 hS (.t .h) sz39 (rfl) (.t hF rfl (.t hF rfl (.nil))))) ?_)
        exact ⟨_, hg, rfl, ⟨A5, c5, rfl, hO5⟩, hS.one (.t (.t (.t .h)))⟩
      ·
        refine dl rfl (wn rfl) (O.alloc rfl rfl hF ze39 rfl hS fun b9 a w hF hS => ⟨fun hD => hS.sel [7, 3] rfl rfl, ?_⟩)
        have hD := hS.sel [7, 3] rfl rfl
        refine dl rfl (wn rfl) (O.callK rfl rfl hF ent18 (hF.evs rfl) hS (run_calls ({ F with hb := b17, qA := A14, qc := c14, cA := A30, cc := c30, aA := A24, ac := c24 }) [(b17, Cel (hcells ({ F with hb := b17, qA := A14, qc := c14, cA := A30, cc := c30, aA := A24, ac := c24 }) (.slice none 0 0)) 55)] w ⟨h0.byt, hO30.2.1, hO30.cap, h0.argsW, hO24.2.1, hO24.cap, h0.self, h0.caller, h0.amount, h0.reps, h0.qlen⟩ ⟨none, 0, [], rfl, OwnS.nil 72 30⟩ (hS.own1 (.t (.t (.t (.t .h))))) ⟨RdK.ownS (hS.sel [1, 4] rfl rfl) hO30, RdK.ownS (hS.sel [2, 4] rfl rfl) hO24, RdK.ownS (hS.sel [5, 4] rfl rfl) hO14, (RdK.nok hI).down hS (.t (.t (.t (.t .h))))⟩ (next_ok ⟨hin.byt, hin.cap, hin.cap2⟩)) (fun _ => (.t (.t (.t (.t .h))))) fun v s34 a w hR hF hS => ⟨fun hD => hS.sel [7, 3] rfl rfl, ?_⟩)
        obtain ⟨rfl, hH4⟩ := hR
        have hD := hS.sel [7, 3] rfl rfl
        refine dq hF rfl (wn rfl) rfl rfl (fun w => R.move (hF.ev rfl)) fun a hF => ?_
        refine dq hF rfl (wn rfl) rfl rfl (fun w => R.extract (hF.ev rfl) rfl) fun a hF => ?_
        refine dq hF rfl (wn rfl) rfl rfl (fun w => R.extract (hF.ev rfl) rfl) fun a hF => ?_
        refine dl rfl (wn rfl) (O.storeW sz39 (hF.ev rfl) (hF.ev rfl) (rfl) rfl (by simp [Value.oneCell']) hS .h (rfl) fun w hS => ⟨fun hD => hS.sel [7, 3] rfl rfl, ?_⟩)
        have hD := hS.sel [7, 3] rfl rfl
        refine dq hF rfl (wn rfl) rfl rfl (fun w => R.assign (hF.ev rfl)) fun a hF => ?_
        refine d0 ?_
        refine then_n (hK5 _ _ ?_)
        refine wp_seq_k fun K7 hK7 => ?_
        obtain ⟨A5, c5, hg, rfl, hO5⟩ := hH4
        have hS := (hS.sel [0, 6, 4] rfl rfl).flat (bs' := [[(b9, Cel (wc (playN F.cl F.code F.rep).v ++ [Value.int .i64 (playN F.cl F.code F.rep).gas]) 39)], [(b4, Cel [.int .u64 0, .int .u64 0, .int .u64 0, .int .u64 0, .int .i64 0] 39)], [(b17, Cel (hcells ({ F with hb := b17, qA := A14, qc := c14, cA := A30, cc := c30, aA := A24, ac := c24 }) (.slice A5 (playN F.cl F.code F.rep).asks.length c5)) 55)], hg]) rfl
        refine wp_drawG hS (hS.sel [0, 2] rfl rfl) [(0, 1), (1, 0), (2, 0), (3, 0), (4, 0), (5, 1), (6, 2), (7, 0), (8, 0)] mix (by kernel_rfl) (hP.then) fun w hS hD => ?_
        refine dr hF rfl (wn rfl) rfl rfl hD (fun w hD => R.loadW agg39 (hF.ev rfl) hD .h sz39 (rfl)) fun a hF => ?_
        refine dq hF rfl (wn rfl) rfl rfl (fun w => R.move (hF.ev rfl)) fun a hF => ?_
        refine dq hF rfl (wn rfl) rfl rfl (fun w => R.move (hF.ev rfl)) fun a hF => ?_
        refine dq hF rfl (wn rfl) rfl rfl (fun w => R.nilCheck (hF.ev rfl)) fun a hF => ?_
        refine dq hF rfl (wn rfl) rfl rfl (fun w => R.fieldAddr (k := 1) Try.underlying55 rfl nz40 (hF.ev rfl) rfl) fun a hF => ?_
        refine dr hF rfl (wn rfl) rfl rfl hD (fun w hD => R.load one40 (hF.ev rfl) hD (.t .h) (rfl)) fun a hF => ?_
        refine dl rfl (wn rfl) (O.storeW sz39 (hF.ev rfl) (hF.ev rfl) (rfl) rfl (by simp [Value.oneCell']) hS (.t .h) (rfl) fun w hS => ⟨fun hD => hS.sel [0, 2] rfl rfl, ?_⟩)
        have hD := hS.sel [0, 2] rfl rfl
        refine dq hF rfl (wn rfl) rfl rfl (fun w => R.assign (hF.ev rfl)) fun a hF => ?_
        refine dq hF rfl (wn rfl) rfl rfl (fun w => R.assign (hF.ev rfl)) fun a hF => ?_
        refine d0 ?_
        refine then_n (hK7 _ _ ?_)
        refine wp_ret (hR _ _ _ _ _ hF (run_results Try.results15 (.cw hF rfl agg39 hS (.t .h) sz39 (rfl) (.t hF rfl (.t hF rfl (.nil))))) ?_)
        exact ⟨_, hg, rfl, ⟨A5, c5, rfl, hO5⟩, hS.one (.t (.t (.t .h)))⟩
    ·
      refine dl rfl (wn rfl) (O.alloc rfl rfl hF ze39 rfl hS fun b9 a w hF hS => ⟨fun hD => hS.sel [7, 3] rfl rfl, ?_⟩)
      have hD := hS.sel [7, 3] rfl rfl
      refine dl rfl (wn rfl) (O.appendO rfl rfl hF Try.underlying23 inf5 rfl rfl (by decide) (hF.ev rfl) (hF.ev rfl) hS (own_nil5 b27) (fun _ => (.t .h)) (hC.old hS) (by rw [length_byts, Nat.mul_one]) (byts_one _) (by unfold maxLen; omega) (by omega) fun A30 c30 s30 a w hO30 hF hS => ⟨fun hD => hS.sel [7, 3] rfl rfl, ?_⟩)
      have hD := hS.sel [7, 3] rfl rfl
      rw [Nat.zero_add] at hF hO30; rw [show byts [] = [] from rfl, List.nil_append] at hO30
      refine dl rfl (wn rfl) (O.callK rfl rfl hF ent18 (hF.evs rfl) hS (run_calls ({ F with hb := b17, qA := A14, qc := c14, cA := A30, cc := c30, aA := A24, ac := c24 }) [(b17, Cel (hcells ({ F with hb := b17, qA := A14, qc := c14, cA := A30, cc := c30, aA := A24, ac := c24 }) (.slice none 0 0)) 55)] w ⟨h0.byt, hO30.2.1, hO30.cap, h0.argsW, hO24.2.1, hO24.cap, h0.self, h0.caller, h0.amount, h0.reps, h0.qlen⟩ ⟨none, 0, [], rfl, OwnS.nil 72 30⟩ (hS.own1 (.t (.t (.t (.t .h))))) ⟨RdK.ownS (hS.sel [1, 4] rfl rfl) hO30, RdK.ownS (hS.sel [2, 4] rfl rfl) hO24, RdK.ownS (hS.sel [5, 4] rfl rfl) hO14, (RdK.nok hI).down hS (.t (.t (.t (.t .h))))⟩ (next_ok ⟨hin.byt, hin.cap, hin.cap2⟩)) (fun _ => (.t (.t (.t (.t .h))))) fun v s34 a w hR hF hS => ⟨fun hD => hS.sel [7, 3] rfl rfl, ?_⟩)
      obtain ⟨rfl, hH4⟩ := hR
      have hD := hS.sel [7, 3] rfl rfl
      refine dq hF rfl (wn rfl) rfl rfl (fun w => R.move (hF.ev rfl)) fun a hF => ?_
      refine dq hF rfl (wn rfl) rfl rfl (fun w => R.extract (hF.ev rfl) rfl) fun a hF => ?_
      refine dq hF rfl (wn rfl) rfl rfl (fun w => R.extract (hF.ev rfl) rfl) fun a hF => ?_
      refine dl rfl (wn rfl) (O.storeW sz39 (hF.ev rfl) (hF.ev rfl) (rfl) rfl (by simp [Value.oneCell']) hS .h (rfl) fun w hS => ⟨fun hD => hS.sel [7, 3] rfl rfl, ?_⟩)
      have hD := hS.sel [7, 3] rfl rfl
      refine dq hF rfl (wn rfl) rfl rfl (fun w => R.assign (hF.ev rfl)) fun a hF => ?_
      refine d0 ?_
      refine then_n (hK5 _ _ ?_)
      refine wp_seq_k fun K8 hK8 => ?_
      obtain ⟨A5, c5, hg, rfl, hO5⟩ := hH4
      have hS := (hS.sel [0, 6, 4] rfl rfl).flat (bs' := [[(b9, Cel (wc (playN F.cl F.code F.rep).v ++ [Value.int .i64 (playN F.cl F.code F.rep).gas]) 39)], [(b4, Cel [.int .u64 0, .int .u64 0, .int .u64 0, .int .u64 0, .int .i64 0] 39)], [(b17, Cel (hcells ({ F with hb := b17, qA := A14, qc := c14, cA := A30, cc := c30, aA := A24, ac := c24 }) (.slice A5 (playN F.cl F.code F.rep).asks.length c5)) 55)], hg]) rfl
      refine wp_drawG hS (hS.sel [0, 2] rfl rfl) [(0, 1), (1, 0), (2, 0), (3, 0), (4, 0), (5, 1), (6, 2), (7, 0), (8, 0)] mix (by kernel_rfl) (hP.then) fun w hS hD => ?_
      refine dr hF rfl (wn rfl) rfl rfl hD (fun w hD => R.loadW agg39 (hF.ev rfl) hD .h sz39 (rfl)) fun a hF => ?_
      refine dq hF rfl (wn rfl) rfl rfl (fun w => R.move (hF.ev rfl)) fun a hF => ?_
      refine dq hF rfl (wn rfl) rfl rfl (fun w => R.move (hF.ev rfl)) fun a hF => ?_
      refine dq hF rfl (wn rfl) rfl rfl (fun w => R.nilCheck (hF.ev rfl)) fun a hF => ?_
      refine dq hF rfl (wn rfl) rfl rfl (fun w => R.fieldAddr (k := 1) Try.underlying55 rfl nz40 (hF.ev rfl) rfl) fun a hF => ?_
      refine dr hF rfl (wn rfl) rfl rfl hD (fun w hD => R.load one40 (hF.ev rfl) hD (.t .h) (rfl)) fun a hF => ?_
      refine dl rfl (wn rfl) (O.storeW sz39 (hF.ev rfl) (hF.ev rfl) (rfl) rfl (by simp [Value.oneCell']) hS (.t .h) (rfl) fun w hS => ⟨fun hD => hS.sel [0, 2] rfl rfl, ?_⟩)
      have hD := hS.sel [0, 2] rfl rfl
      refine dq hF rfl (wn rfl) rfl rfl (fun w => R.assign (hF.ev rfl)) fun a hF => ?_
      refine dq hF rfl (wn rfl) rfl rfl (fun w => R.assign (hF.ev rfl)) fun a hF => ?_
      refine d0 ?_
      refine then_n (hK8 _ _ ?_)
      refine wp_ret (hR _ _ _ _ _ hF (run_results Try.results15 (.cw hF rfl agg39 hS (.t .h) sz39 (rfl) (.t hF rfl (.t hF rfl (.nil))))) ?_)
      exact ⟨_, hg, rfl, ⟨A5, c5, rfl, hO5⟩, hS.one (.t (.t (.t .h)))⟩
  ·
    refine dl rfl (wn rfl) (O.alloc rfl rfl hF ze39 rfl hS fun b9 a w hF hS => ⟨fun hD => hS.sel [6, 2] rfl rfl, ?_⟩)
    have hD := hS.sel [6, 2] rfl rfl
    refine dl rfl (wn rfl) (O.buildSlice (l := []) rfl rfl hF Try.underlying23 inf5 rfl rfl (hF.evp rfl) (by decide) rfl hS fun b27 a w hF hS => ⟨fun hD => hS.sel [7, 3] rfl rfl, ?_⟩)
    have hD := hS.sel [7, 3] rfl rfl
    refine dl rfl (wn rfl) (O.appendO rfl rfl hF Try.underlying23 inf5 rfl rfl (by decide) (hF.ev rfl) (hF.ev rfl) hS (own_nil5 b27) (fun _ => .h) (hC.old hS) (by rw [length_byts, Nat.mul_one]) (byts_one _) (by unfold maxLen; omega) (by omega) fun A30 c30 s30 a w hO30 hF hS => ⟨fun hD => hS.sel [7, 3] rfl rfl, ?_⟩)
    have hD := hS.sel [7, 3] rfl rfl
    rw [Nat.zero_add] at hF hO30; rw [show byts [] = [] from rfl, List.nil_append] at hO30
    refine dl rfl (wn rfl) (O.callK rfl rfl hF ent18 (hF.evs rfl) hS (run_calls ({ F with hb := b17, qA := A14, qc := c14, cA := A30, cc := c30, aA := A24, ac := c24 }) [(b17, Cel (hcells ({ F with hb := b17, qA := A14, qc := c14, cA := A30, cc := c30, aA := A24, ac := c24 }) (.slice none 0 0)) 55)] w ⟨h0.byt, hO30.2.1, hO30.cap, h0.argsW, hO24.2.1, hO24.cap, h0.self, h0.caller, h0.amount, h0.reps, h0.qlen⟩ ⟨none, 0, [], rfl, OwnS.nil 72 30⟩ (hS.own1 (.t (.t (.t (.t .h))))) ⟨RdK.ownS (hS.sel [0, 4] rfl rfl) hO30, RdK.ownS (hS.sel [2, 4] rfl rfl) hO24, RdK.ownS (hS.sel [5, 4] rfl rfl) hO14, (RdK.nok hI).down hS (.t (.t (.t (.t .h))))⟩ (next_ok ⟨hin.byt, hin.cap, hin.cap2⟩)) (fun _ => (.t (.t (.t (.t .h))))) fun v s34 a w hR hF hS => ⟨fun hD => hS.sel [7, 3] rfl rfl, ?_⟩)
    obtain ⟨rfl, hH4⟩ := hR
    have hD := hS.sel [7, 3] rfl rfl
    refine dq hF rfl (wn rfl) rfl rfl (fun w => R.move (hF.ev rfl)) fun a hF => ?_
    refine dq hF rfl (wn rfl) rfl rfl (fun w => R.extract (hF.ev rfl) rfl) fun a hF => ?_
    refine dq hF rfl (wn rfl) rfl rfl (fun w => R.extract (hF.ev rfl) rfl) fun a hF => ?_
    refine dl rfl (wn rfl) (O.storeW sz39 (hF.ev rfl) (hF.ev rfl) (rfl) rfl (by simp [Value.oneCell']) hS (.t .h) (rfl) fun w hS => ⟨fun hD => hS.sel [7, 3] rfl rfl, ?_⟩)
    have hD := hS.sel [7, 3] rfl rfl
    refine dq hF rfl (wn rfl) rfl rfl (fun w => R.assign (hF.ev rfl)) fun a hF => ?_
    refine d0 ?_
    refine then_n (hK5 _ _ ?_)
    refine wp_seq_k fun K9 hK9 => ?_
    obtain ⟨A5, c5, hg, rfl, hO5⟩ := hH4
    have hS := (hS.sel [1, 6, 4] rfl rfl).flat (bs' := [[(b9, Cel (wc (playN F.cl F.code F.rep).v ++ [Value.int .i64 (playN F.cl F.code F.rep).gas]) 39)], [(b4, Cel [.int .u64 0, .int .u64 0, .int .u64 0, .int .u64 0, .int .i64 0] 39)], [(b17, Cel (hcells ({ F with hb := b17, qA := A14, qc := c14, cA := A30, cc := c30, aA := A24, ac := c24 }) (.slice A5 (playN F.cl F.code F.rep).asks.length c5)) 55)], hg]) rfl
    refine wp_drawG hS (hS.sel [0, 2] rfl rfl) [(0, 1), (1, 0), (2, 0), (3, 0), (4, 0), (5, 1), (6, 2), (7, 0), (8, 0)] mix (by kernel_rfl) (hP.then) fun w hS hD => ?_
    refine dr hF rfl (wn rfl) rfl rfl hD (fun w hD => R.loadW agg39 (hF.ev rfl) hD .h sz39 (rfl)) fun a hF => ?_
    refine dq hF rfl (wn rfl) rfl rfl (fun w => R.move (hF.ev rfl)) fun a hF => ?_
    refine dq hF rfl (wn rfl) rfl rfl (fun w => R.move (hF.ev rfl)) fun a hF => ?_
    refine dq hF rfl (wn rfl) rfl rfl (fun w => R.nilCheck (hF.ev rfl)) fun a hF => ?_
    refine dq hF rfl (wn rfl) rfl rfl (fun w => R.fieldAddr (k := 1) Try.underlying55 rfl nz40 (hF.ev rfl) rfl) fun a hF => ?_
    refine dr hF rfl (wn rfl) rfl rfl hD (fun w hD => R.load one40 (hF.ev rfl) hD (.t .h) (rfl)) fun a hF => ?_
    refine dl rfl (wn rfl) (O.storeW sz39 (hF.ev rfl) (hF.ev rfl) (rfl) rfl (by simp [Value.oneCell']) hS (.t .h) (rfl) fun w hS => ⟨fun hD => hS.sel [0, 2] rfl rfl, ?_⟩)
    have hD := hS.sel [0, 2] rfl rfl
    refine dq hF rfl (wn rfl) rfl rfl (fun w => R.assign (hF.ev rfl)) fun a hF => ?_
    refine dq hF rfl (wn rfl) rfl rfl (fun w => R.assign (hF.ev rfl)) fun a hF => ?_
    refine d0 ?_
    refine then_n (hK9 _ _ ?_)
    refine wp_ret (hR _ _ _ _ _ hF (run_results Try.results15 (.cw hF rfl agg39 hS (.t .h) sz39 (rfl) (.t hF rfl (.t hF rfl (.nil))))) ?_)
    exact ⟨_, hg, rfl, ⟨A5, c5, rfl, hO5⟩, hS.one (.t (.t (.t .h)))⟩
end Go.Proofs.Ytlapmbkfmbkdoaa
end
section
namespace Go.Proofs.Ytlapmbkfmbkdoaa
open Go Go.Fw Go.RowKit
attribute [local irreducible] Go.Oper.wp Go.Code.wp Go.wpList Go.Fw.WL Go.Calls
def aliveF (b1 b2 : Nat) : Fx := { rb := 0, hb := 0, cA := some ⟨b1, 0, none⟩, cc := 6, code := [16, 0, 16, 1, 6, 1], aA := some ⟨b2, 0, none⟩, ac := 2, cl := ⟨fun _ => 0, fun _ => 0, 0, 0, [5, 7], 0, 100⟩, qA := none, qc := 0, reps := [], iA := none, ic := 0, inner := [] }
theorem alive_ok (b1 b2 : Nat) : Fx.Ok0 (aliveF b1 b2) := ⟨fun d hd => by simp [aliveF] at hd; omega, Nat.le_refl _, by show 6 ≤ _; decide, by intro x hx; simp [aliveF] at hx; omega, Nat.le_refl _, by show 2 ≤ _; decide, fun _ => by show 0 < 256; decide, fun _ => by show 0 < 256; decide, by show 0 < _; decide, by intro r hr; simp [aliveF] at hr, Nat.zero_le _⟩
theorem alive_in (b1 b2 : Nat) : InnerOk (aliveF b1 b2) := ⟨fun d hd => by simp [aliveF] at hd, Nat.zero_le _, Nat.zero_le _⟩
theorem alive_play (b1 b2 : Nat) : playN (aliveF b1 b2).cl (aliveF b1 b2).code (aliveF b1 b2).rep = ⟨12, 7, 0, []⟩ := by kernel_rfl
theorem alive_eq : EqOk Try.prog Op.maxDepth 39 (.agg #[.int .u64 12, .int .u64 0, .int .u64 0, .int .u64 0, .int .i64 7]) (.agg #[.int .u64 12, .int .u64 0, .int .u64 0, .int .u64 0, .int .i64 7]) true := fun w => by kernel_rfl
theorem alive_guard : Try.prog.eqGuardType Try.prog.depth 39 = false := by kernel_rfl
set_option maxHeartbeats 2000000 in
theorem alive_calls  (w0 : World) : Ret Try.prog 11 [] w0 [] (fun v s => v = .bool true ∧ s = []) := by
  refine fn_start Try.func11 rfl Try.ntmps11 rfl [] trivial ?_
  intro Q a hP hF hR hN
  have hS := St.start w0
  refine wp_seq_k fun K1 hK1 => ?_
  refine wp_region_lit ?_
  refine sv' hF (wn rfl) rfl rfl (R.assign (hF.ev rfl)) fun a hF => ?_
  refine s0 ?_
  refine then_n (hK1 _ _ ?_)
  refine wp_seq_k fun K2 hK2 => ?_
  refine wp_region_lit ?_
  refine so (wn rfl) (O.buildSlice (l := [_, _, _, _, _, _]) rfl rfl hF Try.underlying23 inf5 rfl rfl (hF.evp rfl) (by decide) rfl hS fun b5 a w hF hS => ?_)
  refine sv' hF (wn rfl) rfl rfl (R.buildArr (l := [_, _, _, _]) Try.underlying31 ze31 sz29 (hF.evp rfl) rfl) fun a hF => ?_
  refine sv' hF (wn rfl) rfl rfl (R.buildArr (l := [_, _, _, _]) Try.underlying31 ze31 sz29 (hF.evp rfl) rfl) fun a hF => ?_
  refine so (wn rfl) (O.buildSlice (l := [_, _, _, _, _, _, _, _]) rfl rfl hF Try.underlying32 inf31 rfl rfl (hF.evp rfl) (by decide) rfl hS fun b8 a w hF hS => ?_)
  refine sv' hF (wn rfl) rfl rfl (R.buildStr (l := callc (aliveF b5 b8)) Try.underlying34 ze34 pl34 (hF.evp rfl) (by kernel_rfl)) fun a hF => ?_
  refine sv' hF (wn rfl) rfl rfl (R.buildStr (l := plays (aliveF b5 b8)) Try.underlying37 ze37 pl37 (hF.evp rfl) (by kernel_rfl)) fun a hF => ?_
  refine so (wn rfl) (O.call rfl rfl hF ent15 (hF.evs rfl) hS (lawrun_calls (aliveF b5 b8) w (alive_ok b5 b8) (alive_in b5 b8) (Rd.own0 hS (.t .h)) (Rd.own0 hS .h) (Rd.nil _ _) (Rd.nil _ _) (by show 6 ≤ _; decide) (by show 2 ≤ _; decide) (Nat.zero_le _)) fun v s11 a w hR hF hS => ?_)
  obtain ⟨A11, c11, rfl, hO11⟩ := hR
  rw [alive_play] at hF hO11; dsimp only at hF
  refine sv' hF (wn rfl) rfl rfl (R.move (hF.ev rfl)) fun a hF => ?_
  refine sv' hF (wn rfl) rfl rfl (R.extract (hF.ev rfl) rfl) fun a hF => ?_
  refine sv' hF (wn rfl) rfl rfl (R.extract (hF.ev rfl) rfl) fun a hF => ?_
  refine sv' hF (wn rfl) rfl rfl (R.extract (hF.ev rfl) rfl) fun a hF => ?_
  refine so (wn rfl) (O.alloc rfl rfl hF ze39 rfl hS fun b1 a w hF hS => ?_)
  refine so (wn rfl) (O.storeW sz39 (hF.ev rfl) (hF.ev rfl) (rfl) rfl (by simp [Value.oneCell']) hS .h (rfl) fun w hS => ?_)
  refine sv' hF (wn rfl) rfl rfl (R.assign (hF.ev rfl)) fun a hF => ?_
  refine sv' hF (wn rfl) rfl rfl (R.assign (hF.ev rfl)) fun a hF => ?_
  refine s0 ?_
  refine then_n (hK2 _ _ ?_)
  refine wp_seq_k fun K3 hK3 => ?_
  refine wp_region_lit ?_
  refine sv' hF (wn rfl) rfl rfl (R.move (hF.ev rfl)) fun a hF => ?_
  refine sv' hF (wn rfl) rfl rfl (R.as (u := .bool true) (R.eql (p := 0) (q := 0) (hF.ev rfl) (hF.ev rfl)) (congrArg Value.bool (decide_eq_true (rfl)))) fun a hF => ?_
  refine sv' hF (wn rfl) rfl rfl (R.move (hF.ev rfl)) fun a hF => ?_
  refine sv' hF (wy hF rfl rfl rfl) rfl rfl (R.loadW agg39 (hF.ev rfl) hS .h sz39 (rfl)) fun a hF => ?_
  refine sv' hF (wy hF rfl rfl rfl) rfl rfl (R.buildArr (l := [_, _, _, _]) Try.underlying31 ze31 sz29 (hF.evp rfl) rfl) fun a hF => ?_
  refine sv' hF (wy hF rfl rfl rfl) rfl rfl (R.buildStr (l := [_, _, _, _, _]) Try.underlying39 ze39 pl39 (hF.evp rfl) rfl) fun a hF => ?_
  refine sv' hF (wy hF rfl rfl rfl) rfl rfl (R.eqlAgg (hF.ev rfl) (hF.ev rfl) alive_eq alive_guard) fun a hF => ?_
  refine sv' hF (wn rfl) rfl rfl (R.pickT (hF.ev rfl) (hF.ev rfl)) fun a hF => ?_
  refine sv' hF (wn rfl) rfl rfl (R.move (hF.ev rfl)) fun a hF => ?_
  refine sv' hF (wy hF rfl rfl rfl) rfl rfl (R.move (hF.ev rfl)) fun a hF => ?_
  refine sv' hF (wy hF rfl rfl rfl) rfl rfl (R.len Try.underlying40 (hF.ev rfl)) fun a hF => ?_
  refine sv' hF (wy hF rfl rfl rfl) rfl rfl (R.eql (hF.ev rfl) (hF.ev rfl)) fun a hF => ?_
  refine sv' hF (wn rfl) rfl rfl (R.pickT (hF.ev rfl) (hF.ev rfl)) fun a hF => ?_
  refine sv' hF (wn rfl) rfl rfl (R.assign (hF.ev rfl)) fun a hF => ?_
  refine s0 ?_
  refine then_n (hK3 _ _ ?_)
  refine wp_ret (hR _ _ _ _ _ hF (run_results Try.results11 (.t hF rfl (.nil))) ?_)
  exact ⟨_, [], rfl, ⟨rfl, rfl⟩, hS.none⟩
end Go.Proofs.Ytlapmbkfmbkdoaa
end
section
namespace Go.Proofs.Ytlapmbkfmbkdoaa
open Go Go.Fw Go.RowKit
attribute [local irreducible] Go.Oper.wp Go.Code.wp Go.wpList Go.Fw.WL Go.Calls
end Go.Proofs.Ytlapmbkfmbkdoaa
end
section
namespace Go.Fw
section
variable {P : Program} {w : World} {T E : TypeId} {d : Nat}
end
end Go.Fw
namespace Go.Proofs.Ytlapmbkfmbkdoaa
open Go Go.Fw Go.RowKit
end Go.Proofs.Ytlapmbkfmbkdoaa
end
section
namespace Go.Proofs.Ytlapmbkfmbkdoaa
open Go Go.Fw Go.ChangeShapes Go.RowKit
def i64OK (n : Int) : Prop := -9223372036854775808 ≤ n ∧ n ≤ 9223372036854775807
theorem wf_i64 {n : Int} (h : (Lit.int .i64 n).wf = true) : i64OK n := by
  have := bounds_i64 h; unfold i64OK; omega
theorem weight_field {H : Type} {P : Program} {t : TypeId} {fs : Array Field} (hu : P.underlying t = some (.struct fs)) {parts : List (DataW H)} (h : ∀ n ∈ (DataW.agg parts).weights P t, n ≤ reachBytes) : (DataW.weightsEach P (fs.toList.map (·.type)) parts).all (· ≤ reachBytes) = true := by
  rw [List.all_eq_true]
  intro n hn
  have := h n (by simpa [DataW.weights, hu] using hn)
  simpa using this
theorem ce28 : Try.prog.cellsOf 28 = 20 := by kernel_rfl
theorem ce34 : Try.prog.cellsOf 34 = 48 := by kernel_rfl
theorem ce37 : Try.prog.cellsOf 37 = 50 := by kernel_rfl
theorem ce48 : Try.prog.cellsOf 48 = 5 := by kernel_rfl
theorem ce24 : Try.prog.cellsOf 24 = 1 := by kernel_rfl
theorem ce32 : Try.prog.cellsOf 32 = 1 := by kernel_rfl
theorem ce35 : Try.prog.cellsOf 35 = 1 := by kernel_rfl
theorem bytes48 : Try.prog.bytesOf 48 = 40 := by kernel_rfl
def repOk (r : Nat × Int) : Prop := r.1 < 115792089237316195423570985008687907853269984665640564039457584007913129639936 ∧ i64OK r.2
theorem reps_of : ∀ els : List (List Value), (∀ l ∈ els, (∃ r : Nat × Int, repOk r ∧ l = repc r) ∧ l.length = 5) → ∃ ps : List (Nat × Int), ps.length = els.length ∧ (∀ r ∈ ps, repOk r) ∧ els.flatten = ps.flatMap repc
  | [], _ => ⟨[], rfl, by intro x hx; simp at hx, rfl⟩
  | l :: els, h => by
    obtain ⟨ps, h1, h2, h3⟩ := reps_of els fun l hl => h l (by simp [hl])
    obtain ⟨⟨p, hp, rfl⟩, _⟩ := h l (by simp)
    refine ⟨p :: ps, by simp [h1], ?_, by rw [List.flatten_cons, h3, List.flatMap_cons]⟩
    intro q hq
    rcases List.mem_cons.1 hq with rfl | hq
    · exact hp
    · exact h2 q hq
theorem len_5 {α : Type} {l : List α} (h : l.length = 5) : ∃ a b c d e, l = [a, b, c, d, e] := by
  match l, h with
  | [a, b, c, d, e], _ => exact ⟨a, b, c, d, e, rfl⟩
section
variable {H : Type} {enc : TypeId × Value → H} {w : World} {base fuel : Nat} {spare : Nat → Bool} {held : Bool} {cs : List Value} {x : DataW H × List MemPlace}
theorem open_reply (h : DataW.trod enc Try.prog w base spare held fuel 48 cs = some x) : ∃ r : Nat × Int, repOk r ∧ cs = repc r := by
  obtain ⟨hl, m, g⟩ := trod_fields Try.underlying48 h
  rw [ce48] at hl
  obtain ⟨a, b, c, d, e, rfl⟩ := len_5 hl
  obtain ⟨y0, g0⟩ := g 0 _ 31 0 rfl rfl rfl
  obtain ⟨y1, g1⟩ := g 1 _ 24 4 rfl rfl rfl
  obtain ⟨n0, w0, e0⟩ := open_wide g0
  obtain ⟨n1, e1, _, w1⟩ := DataW.trod_int Try.underlying24 g1
  simp only [ce24, ce31, List.drop_zero, List.drop_succ_cons, List.take_succ_cons, List.take_zero, List.cons.injEq, and_true] at e0 e1
  subst e1
  obtain ⟨rfl, rfl, rfl, rfl⟩ := e0
  exact ⟨(n0, n1), ⟨w0, wf_i64 w1⟩, rfl⟩
theorem open_replies {A : Option Addr} {len cap : Nat} (h : DataW.trod enc Try.prog w base spare held fuel 35 [.slice A len cap] = some x) : ∃ l : List (Nat × Int), l.length = len ∧ (∀ r ∈ l, repOk r) ∧ Rd w A (l.flatMap repc) ∧ len ≤ cap ∧ cap ≤ 9223372036854775807 := by
  obtain ⟨h1, h2, els, h3, h4, h5⟩ := open_rd (n := 5) (Pp := fun l => ∃ r : Nat × Int, repOk r ∧ l = repc r) Try.underlying35 ce48 (fun fuel cs x h => by
    obtain ⟨n, hn, rfl⟩ := open_reply h
    exact ⟨⟨n, hn, rfl⟩, rfl⟩) h
  obtain ⟨ps, g1, g2, g3⟩ := reps_of els h4
  exact ⟨ps, by rw [g1, h3], g2, g3 ▸ h5, h1, Nat.le_trans h2 (by decide)⟩
theorem open_addr (h : DataW.trod enc Try.prog w base spare held fuel 28 cs = some x) : ∃ f : Nat → Nat, (∀ i, f i < 256) ∧ cs = adc f := by
  obtain ⟨xs, m, rfl, _, hl, hxl, hx⟩ := DataW.trod_array Try.underlying28 h
  rw [ce28] at hl
  simp only [ce5, Nat.mul_one] at hx
  have g : ∀ i, ∃ n : Nat, n < 256 ∧ (i < 20 → cs[i]? = some (.int .u8 (n : Int))) := by
    intro i
    by_cases hi : i < 20
    · have g : DataW.trod enc Try.prog w base spare held m 5 ((cs.drop i).take 1) = some (xs[i]'(by omega)) := by rw [hx i hi]; simp [hxl, hi]
      obtain ⟨n0, e0, _, w0⟩ := DataW.trod_int Try.underlying5 g
      have hb : 0 ≤ n0 ∧ n0 ≤ 255 := by
        simp only [Lit.wf, Bool.and_eq_true, decide_eq_true_eq] at w0
        have h1 : IntKind.u8.min = 0 := rfl
        have h2 : IntKind.u8.max = 255 := rfl
        omega
      refine ⟨n0.toNat, by omega, fun _ => ?_⟩
      rw [Int.toNat_of_nonneg hb.1]
      have : (cs.drop i).take 1 = [cs[i]'(by omega)] := by
        rw [List.drop_eq_getElem_cons (by omega)]; rfl
      rw [this] at e0
      rw [List.getElem?_eq_getElem (by omega)]
      simpa using e0
    · exact ⟨0, by decide, fun h => absurd h hi⟩
  refine ⟨fun i => Classical.choose (g i), fun i => (Classical.choose_spec (g i)).1, ?_⟩
  have hE : ∀ f : Nat → Nat, adc f = (List.range 20).map fun i => Value.int .u8 ((f i : Nat) : Int) := fun f => rfl
  rw [hE]
  refine List.ext_getElem? fun i => ?_
  by_cases hi : i < 20
  · rw [(Classical.choose_spec (g i)).2 hi]
    simp [hi]
  · rw [List.getElem?_eq_none (by omega), List.getElem?_eq_none (by simp; omega)]
end
structure PlayIn (F : Fx) (w : World) : Prop where
  ok : Fx.Ok0 F
  inner : F.inner = []
  code : Rd w F.cA (byts F.code)
  args : Rd w F.aA (F.cl.args.flatMap wc)
  reps : Rd w F.qA (F.reps.flatMap repc)
  b1 : F.code.length ≤ 140737488351232
  b2 : F.cl.args.length ≤ 4398046510976
  b3 : F.reps.length ≤ 3518437208781
  tok : i64OK F.cl.token
  time : i64OK F.cl.time
  gas : i64OK F.cl.gas
  errs : ∀ r ∈ F.reps, i64OK r.2
theorem slice_of {H : Type} {enc : TypeId × Value → H} {w : World} {base fuel : Nat} {spare : Nat → Bool} {held : Bool} {t e : TypeId} {cs : List Value} {x : DataW H × List MemPlace} (hu : Try.prog.underlying t = some (.slice e)) (h : DataW.trod enc Try.prog w base spare held fuel t cs = some x) : ∃ A len cap, cs = [.slice A len cap] := by
  rcases DataW.trod_slice hu h with ⟨rfl, _⟩ | ⟨a, len, cap, _, _, _, _, rfl, _⟩
  · exact ⟨_, _, _, rfl⟩
  · exact ⟨_, _, _, rfl⟩
theorem play_cells {A B C : Option Addr} {n c n2 c2 n3 c3 : Nat} {f g : Nat → Nat} {tok time gas : Int} {am : Nat} {cs : List Value} (h : cs.length = 50) (h0 : cs.take 1 = [.slice A n c]) (h1 : (cs.drop 1).take 48 = adc f ++ (adc g ++ (.int .i64 tok :: (wc am ++ [.slice B n2 c2, .int .i64 time, .int .i64 gas])))) (h2 : (cs.drop 49).take 1 = [.slice C n3 c3]) :
    cs = .slice A n c :: (adc f ++ (adc g ++ (.int .i64 tok :: (wc am ++ [.slice B n2 c2, .int .i64 time, .int .i64 gas, .slice C n3 c3])))) := by
  have e : cs = cs.take 1 ++ ((cs.drop 1).take 48 ++ (cs.drop 49).take 1) := by
    have e1 : (cs.drop 49).take 1 = cs.drop 49 := List.take_of_length_le (by simp; omega)
    rw [e1]
    have e2 := List.take_append_drop 48 (cs.drop 1)
    rw [List.drop_drop] at e2
    rw [e2]; exact (List.take_append_drop 1 cs).symm
  rw [e, h0, h1, h2]; simp
theorem call_cells {B : Option Addr} {n2 c2 : Nat} {f g : Nat → Nat} {tok time gas : Int} {am : Nat} {cs : List Value} (h : cs.length = 48) (h0 : (cs.drop 0).take 20 = adc f) (h1 : (cs.drop 20).take 20 = adc g) (h2 : (cs.drop 40).take 1 = [.int .i64 tok]) (h3 : (cs.drop 41).take 4 = wc am) (h4 : (cs.drop 45).take 1 = [.slice B n2 c2]) (h5 : (cs.drop 46).take 1 = [.int .i64 time]) (h6 : (cs.drop 47).take 1 = [.int .i64 gas]) :
    cs = adc f ++ (adc g ++ (.int .i64 tok :: (wc am ++ [.slice B n2 c2, .int .i64 time, .int .i64 gas]))) := by
  have e : ∀ a k, cs.drop a = (cs.drop a).take k ++ cs.drop (a + k) := fun a k => by
    have := List.take_append_drop k (cs.drop a)
    rw [List.drop_drop] at this
    exact this.symm
  have e48 : cs.drop 48 = [] := List.drop_of_length_le (by omega)
  have : cs = cs.drop 0 := rfl
  rw [this, e 0 20, h0, e (0 + 20) 20, h1, e (0 + 20 + 20) 1, h2, e (0 + 20 + 20 + 1) 4, h3, e (0 + 20 + 20 + 1 + 4) 1, h4, e (0 + 20 + 20 + 1 + 4 + 1) 1, h5, e (0 + 20 + 20 + 1 + 4 + 1 + 1) 1, h6, e48]
  simp
set_option maxRecDepth 4000 in
theorem open_play {H : Type} {enc : TypeId × Value → H} {w : World} {base fuel : Nat} {held : Bool} {cs : List Value} {d : DataW H} {p : List MemPlace} (h : DataW.trod enc Try.prog w base (fun _ => true) held fuel 37 cs = some (d, p)) (hw : ∀ n ∈ d.weights Try.prog 37, n ≤ reachBytes) :
    ∃ F : Fx, PlayIn F w ∧ cs = plays F := by
  obtain ⟨xs, m, _, hx, hl, hlen, hf⟩ := DataW.trod_struct Try.underlying37 h
  obtain ⟨rfl, rfl⟩ := Prod.mk.inj hx
  rw [ce37] at hl
  have W1 := weight_field Try.underlying37 hw
  have f0 := hf 0 _ rfl
  have f1 := hf 1 _ rfl
  have f2 := hf 2 _ rfl
  have hl3 : xs.length = 3 := hlen
  obtain ⟨x0, x1, x2, rfl⟩ : ∃ x0 x1 x2, xs = [x0, x1, x2] := by
    match xs, hl3 with
    | [a, b, c], _ => exact ⟨a, b, c, rfl⟩
  obtain ⟨d0, p0⟩ := x0
  obtain ⟨d1, p1⟩ := x1
  obtain ⟨d2, p2⟩ := x2
  replace f0 : DataW.trod enc Try.prog w base (fun _ => true) held m 23 ((cs.drop 0).take (Try.prog.cellsOf 23)) = some (d0, p0) := f0
  replace f1 : DataW.trod enc Try.prog w base (fun _ => true) held m 34 ((cs.drop 1).take (Try.prog.cellsOf 34)) = some (d1, p1) := f1
  replace f2 : DataW.trod enc Try.prog w base (fun _ => true) held m 35 ((cs.drop 49).take (Try.prog.cellsOf 35)) = some (d2, p2) := f2
  rw [ce23, List.drop_zero] at f0
  rw [ce34] at f1
  rw [ce35] at f2
  obtain ⟨A, n, c, e0⟩ := slice_of Try.underlying23 f0
  obtain ⟨C, n3, c3, e2⟩ := slice_of Try.underlying35 f2
  rw [e0] at f0
  rw [e2] at f2
  have w0 := slice_weight (j := 0) W1 rfl rfl Try.underlying23 f0
  have w2 := slice_weight (j := 2) W1 rfl rfl Try.underlying35 f2
  rw [bytes5, show reachBytes = 140737488351232 from rfl] at w0
  rw [bytes48, show reachBytes = 140737488351232 from rfl] at w2
  obtain ⟨code, hn, hB, hR, hc, hm⟩ := open_byteL f0
  obtain ⟨reps, hn3, hB3, hR3, hc3, hm3⟩ := open_replies f2
  have W2 : ∀ n ∈ d1.weights Try.prog 34, n ≤ reachBytes := fun n hn => by
    have := List.all_eq_true.1 W1 n (DataW.weights_mem_each (j := 1) (t := 34) (d := d1) rfl rfl n hn)
    simpa using this
  obtain ⟨ys, m', _, hy, hl', hlen', hf'⟩ := DataW.trod_struct Try.underlying34 f1
  obtain ⟨rfl, rfl⟩ := Prod.mk.inj hy
  rw [ce34] at hl'
  have W3 := weight_field Try.underlying34 W2
  have hl7 : ys.length = 7 := hlen'
  obtain ⟨y0, y1, y2, y3, y4, y5, y6, rfl⟩ : ∃ y0 y1 y2 y3 y4 y5 y6, ys = [y0, y1, y2, y3, y4, y5, y6] := by
    match ys, hl7 with
    | [a, b, c, d, e, f, g], _ => exact ⟨a, b, c, d, e, f, g, rfl⟩
  obtain ⟨z4, q4⟩ := y4
  have k0 : DataW.trod enc Try.prog w base (fun _ => true) held m' 28 ((((cs.drop 1).take 48).drop 0).take (Try.prog.cellsOf 28)) = some y0 := hf' 0 _ rfl
  have k1 : DataW.trod enc Try.prog w base (fun _ => true) held m' 28 ((((cs.drop 1).take 48).drop 20).take (Try.prog.cellsOf 28)) = some y1 := hf' 1 _ rfl
  have k2 : DataW.trod enc Try.prog w base (fun _ => true) held m' 3 ((((cs.drop 1).take 48).drop 40).take (Try.prog.cellsOf 3)) = some y2 := hf' 2 _ rfl
  have k3 : DataW.trod enc Try.prog w base (fun _ => true) held m' 31 ((((cs.drop 1).take 48).drop 41).take (Try.prog.cellsOf 31)) = some y3 := hf' 3 _ rfl
  have k4 : DataW.trod enc Try.prog w base (fun _ => true) held m' 32 ((((cs.drop 1).take 48).drop 45).take (Try.prog.cellsOf 32)) = some (z4, q4) := hf' 4 _ rfl
  have k5 : DataW.trod enc Try.prog w base (fun _ => true) held m' 3 ((((cs.drop 1).take 48).drop 46).take (Try.prog.cellsOf 3)) = some y5 := hf' 5 _ rfl
  have k6 : DataW.trod enc Try.prog w base (fun _ => true) held m' 3 ((((cs.drop 1).take 48).drop 47).take (Try.prog.cellsOf 3)) = some y6 := hf' 6 _ rfl
  rw [ce28] at k0 k1
  rw [ce3] at k2 k5 k6
  rw [ce31] at k3
  rw [ce32] at k4
  obtain ⟨fs, hfs, e3⟩ := open_addr k0
  obtain ⟨fc, hfc, e4⟩ := open_addr k1
  obtain ⟨tok, e5, _, wt⟩ := DataW.trod_int Try.underlying3 k2
  obtain ⟨am, ham, e6⟩ := open_wide k3
  obtain ⟨B, n2, c2, e7⟩ := slice_of Try.underlying32 k4
  obtain ⟨time, e8, _, wtm⟩ := DataW.trod_int Try.underlying3 k5
  obtain ⟨gas, e9, _, wg⟩ := DataW.trod_int Try.underlying3 k6
  rw [e7] at k4
  have w4 := slice_weight (j := 4) W3 rfl rfl Try.underlying32 k4
  rw [bytes31, show reachBytes = 140737488351232 from rfl] at w4
  obtain ⟨args, hn2, hB2, hR2, hc2, hm2⟩ := open_wides k4
  have hcall := call_cells (by simp [hl]) e3 e4 e5 e6 e7 e8 e9
  have hall := play_cells hl e0 hcall e2
  subst hn hn2 hn3
  refine ⟨{ rb := 0, hb := 0, cA := A, cc := c, code := code, aA := B, ac := c2, cl := ⟨fs, fc, tok, am, args, time, gas⟩, qA := C, qc := c3, reps := reps, iA := none, ic := 0, inner := [] }, ⟨⟨hB, hc, hm, hB2, hc2, hm2, hfs, hfc, ham, fun r hr => (hB3 r hr).1, by show reps.length ≤ _; omega⟩, rfl, hR, hR2, hR3, by dsimp only; omega, by dsimp only; omega, by dsimp only; omega, wf_i64 wt, wf_i64 wtm, wf_i64 wg, fun r hr => (hB3 r hr).2⟩, ?_⟩
  rw [hall]; rfl
end Go.Proofs.Ytlapmbkfmbkdoaa
end
section
namespace Go.Proofs.Ytlapmbkfmbkdoaa
open Go Go.Fw Go.RowKit
theorem play_run {cl : Cl} {code : List Nat} {rep : Nat → Nat × Int} (h1 : chkN code = true) (h2 : callOk cl = true) :
    playN cl code rep = let r := Fw.runN cl code rep (cl.gas.toNat + 1) [] cl.gas.toNat 0 []; if r.e = 0 then ⟨r.v, cl.gas - r.left, 0, r.asks⟩ else ⟨0, 0, r.e, r.asks⟩ := by
  unfold playN; simp [h1, h2]
end Go.Proofs.Ytlapmbkfmbkdoaa
end
section
namespace Go.Proofs.Ytlapmbkfmbkdoaa
open Go Go.Fw Go.RowKit
attribute [local irreducible] Go.Oper.wp Go.Code.wp Go.wpList Go.Fw.WL Go.Calls
end Go.Proofs.Ytlapmbkfmbkdoaa
end
section
namespace Go.Proofs.Ytlapmbkfmbkdoaa
open Go Go.Fw Go.RowKit
theorem dg_ord {V d i : Nat} (hV : V % 2 ^ (8 * i + 8) = 0) (hd : d < 256) : ∀ k, (if k = i / 8 then dg V (i / 8) ||| (d * 2 ^ (8 * (i % 8)) % 18446744073709551616) else dg V k) = dg (V + d * 2 ^ (8 * i)) k := by
  intro k
  have hi : 8 * i = 64 * (i / 8) + 8 * (i % 8) := by omega
  have hm : i % 8 < 8 := Nat.mod_lt _ (by decide)
  generalize i / 8 = j at *
  generalize i % 8 = r at *
  rw [hi] at hV ⊢
  have h64 : (18446744073709551616 : Nat) = 2 ^ 64 := by decide
  have hB : ∀ k, (18446744073709551616 : Nat) ^ k = 2 ^ (64 * k) := fun k => by rw [h64, ← Nat.pow_mul]
  have hRp : 0 < 2 ^ (8 * r) := Nat.pow_pos (by decide)
  have hR : 2 ^ (8 * r) ≤ 72057594037927936 := by
    have : 2 ^ (8 * r) ≤ 2 ^ 56 := Nat.pow_le_pow_right (by decide) (by omega)
    exact this
  obtain ⟨H, rfl⟩ : ∃ H, V = 2 ^ (64 * j) * (2 ^ (8 * r + 8) * H) := ⟨V / 2 ^ (64 * j + 8 * r + 8), by
    rw [← Nat.mul_assoc, ← Nat.pow_add, show 64 * j + (8 * r + 8) = 64 * j + 8 * r + 8 by omega]
    have := Nat.div_add_mod V (2 ^ (64 * j + 8 * r + 8))
    omega⟩
  have e : ∀ Z, 2 ^ (64 * j) * Z + d * 2 ^ (64 * j + 8 * r) = 2 ^ (64 * j) * (Z + d * 2 ^ (8 * r)) := fun Z => by
    rw [Nat.mul_add, Nat.pow_add, Nat.mul_left_comm d]
  rw [e]
  have h8 : 2 ^ (8 * r + 8) = 2 ^ (8 * r) * 256 := by rw [Nat.pow_add]
  have hdr : d * 2 ^ (8 * r) < 2 ^ (8 * r + 8) := by
    rw [h8, Nat.mul_comm]; exact Nat.mul_lt_mul_of_pos_left hd hRp
  have h88 : 2 ^ (8 * r + 8) ≤ 18446744073709551616 := by rw [h8]; omega
  by_cases hk : k = j
  · subst hk
    rw [if_pos rfl]
    unfold dg
    rw [hB, Nat.mul_div_cancel_left _ (Nat.pow_pos (by decide)), Nat.mul_div_cancel_left _ (Nat.pow_pos (by decide)), Nat.mod_eq_of_lt (by omega : d * 2 ^ (8 * r) < 18446744073709551616)]
    have e64 : (18446744073709551616 : Nat) = 2 ^ (8 * r + 8) * 2 ^ (56 - 8 * r) := by rw [← Nat.pow_add, show 8 * r + 8 + (56 - 8 * r) = 64 by omega]
    have e1 : 2 ^ (8 * r + 8) * H % 18446744073709551616 = 2 ^ (8 * r + 8) * (H % 2 ^ (56 - 8 * r)) := by rw [e64, Nat.mul_mod_mul_left]
    have hY := Nat.mod_lt H (Nat.pow_pos (n := 56 - 8 * r) (by decide : 0 < 2))
    have hs : 2 ^ (8 * r + 8) * (H % 2 ^ (56 - 8 * r)) + d * 2 ^ (8 * r) < 18446744073709551616 := by
      have : 2 ^ (8 * r + 8) * (H % 2 ^ (56 - 8 * r) + 1) ≤ 2 ^ (8 * r + 8) * 2 ^ (56 - 8 * r) := Nat.mul_le_mul_left _ hY
      rw [Nat.mul_add, Nat.mul_one, ← e64] at this
      omega
    rw [e1, ← Nat.two_pow_add_eq_or_of_lt hdr, Nat.add_mod, e1, Nat.mod_eq_of_lt (by omega : d * 2 ^ (8 * r) < 18446744073709551616), Nat.mod_eq_of_lt hs]
  · rw [if_neg hk]
    unfold dg
    rw [hB]
    rcases Nat.lt_or_gt_of_ne hk with h | h
    · obtain ⟨m, rfl⟩ : ∃ m, j = k + 1 + m := ⟨j - k - 1, by omega⟩
      have hz : ∀ Z, 2 ^ (64 * (k + 1 + m)) * Z / 2 ^ (64 * k) % 18446744073709551616 = 0 := fun Z => by
        rw [show 64 * (k + 1 + m) = 64 * k + (64 + 64 * m) by omega, Nat.pow_add, Nat.mul_assoc, Nat.mul_div_cancel_left _ (Nat.pow_pos (by decide)), Nat.pow_add, ← h64, Nat.mul_assoc, Nat.mul_mod_right]
      rw [hz, hz]
    · obtain ⟨m, rfl⟩ : ∃ m, k = j + 1 + m := ⟨k - j - 1, by omega⟩
      have hq : ∀ Z, 2 ^ (64 * j) * Z / 2 ^ (64 * (j + 1 + m)) = Z / 2 ^ (64 * (m + 1)) := fun Z => by
        rw [show 64 * (j + 1 + m) = 64 * j + 64 * (m + 1) by omega, Nat.pow_add, ← Nat.div_div_eq_div_mul, Nat.mul_div_cancel_left _ (Nat.pow_pos (by decide))]
      have hq2 : ∀ t, t < 2 ^ (8 * r + 8) → (2 ^ (8 * r + 8) * H + t) / 2 ^ (64 * (m + 1)) = H / 2 ^ (64 * (m + 1) - (8 * r + 8)) := fun t ht => by
        have e4 : (2 : Nat) ^ (64 * (m + 1)) = 2 ^ (8 * r + 8) * 2 ^ (64 * (m + 1) - (8 * r + 8)) := by rw [← Nat.pow_add]; congr 1; omega
        rw [e4, ← Nat.div_div_eq_div_mul, Nat.mul_add_div (Nat.pow_pos (by decide)), Nat.div_eq_of_lt ht, Nat.add_zero]
      have h0 := hq2 0 (Nat.pow_pos (by decide))
      rw [Nat.add_zero] at h0
      rw [hq, hq, hq2 _ hdr, h0]
theorem wc_ord {V d i off : Nat} (hV : V % 2 ^ (8 * i + 8) = 0) (hd : d < 256) (ho : off = i / 8) : (wc V).set off (.int .u64 ((dg V (i / 8) ||| (d * 2 ^ (8 * (i % 8)) % 18446744073709551616) : Nat) : Int)) = wc (V + d * 2 ^ (8 * i)) := by
  rw [← cells4_dg, ← cells4_dg, cells4_set (f := dg V) (k := i / 8) (v := dg V (i / 8) ||| (d * 2 ^ (8 * (i % 8)) % 18446744073709551616)) ho]
  exact cells4_congr fun k _ => dg_ord hV hd k
theorem p2_256 (k : Nat) : (2 : Nat) ^ (8 * k) = 256 ^ k := by rw [Nat.pow_mul]
def upN (l : List Nat) (i : Nat) : Nat := numB (l.take i) * 256 ^ (l.length - i)
theorem upN_0 (l : List Nat) : upN l 0 = 0 := by simp [upN, numB]
theorem upN_all (l : List Nat) : upN l l.length = numB l := by simp [upN]
theorem upN_mod {l : List Nat} {i : Nat} (h : i < l.length) : upN l i % 2 ^ (8 * (l.length - 1 - i) + 8) = 0 := by
  have e : 8 * (l.length - 1 - i) + 8 = 8 * (l.length - i) := by omega
  rw [e, p2_256, upN, Nat.mul_mod_left]
theorem upN_succ {l : List Nat} {i : Nat} (h : i < l.length) : upN l i + l.getD i 0 * 2 ^ (8 * (l.length - 1 - i)) = upN l (i + 1) := by
  have hg : l.getD i 0 = l[i] := by rw [List.getD_eq_getElem?_getD, List.getElem?_eq_getElem h]; rfl
  rw [p2_256, upN, upN, take_snoc l i h, numB_snoc, hg, Nat.add_mul, show l.length - i = (l.length - (i + 1)) + 1 by omega, Nat.pow_succ, show l.length - 1 - i = l.length - (i + 1) by omega]
  congr 1
  rw [Nat.mul_comm (256 ^ (l.length - (i + 1))) 256, Nat.mul_assoc]
theorem upN_at {l : List Nat} {i k off : Nat} (ho : off = k) (h : k < 4) : (wc (upN l i))[off]? = some (.int .u64 ((dg (upN l i) k : Nat) : Int)) := by
  have := wc_at (upN l i) k h
  subst ho
  simpa using this
theorem dig_40 {x i : Nat} (h : i < 32) : dg x (3 - i / 8) / 2 ^ (56 - 8 * (i % 8)) &&& 255 = x / 256 ^ (31 - i) % 256 := by
  have e : (255 : Nat) = 2 ^ 8 - 1 := by decide
  have h2 : 56 - 8 * (i % 8) = 8 * (7 - i % 8) := by omega
  rw [e, Nat.and_two_pow_sub_one_eq_mod, h2, show (2 : Nat) ^ 8 = 256 from rfl, dg_by8 _ _ _ (by omega)]
  unfold by8
  rw [show 8 * (3 - i / 8) + (7 - i % 8) = 31 - i by omega]
theorem toB_0 (k : Nat) : List.replicate k 0 = toB k 0 := by
  unfold toB
  apply List.ext_getElem?
  intro i
  by_cases h : i < k
  · simp [h]
  · simp [h]
theorem setB_take (S t : Nat) : setB (S % 256 ^ t) t (S / 256 ^ t % 256) = S % 256 ^ (t + 1) := by
  rw [setB_three, Nat.mod_mod, Nat.div_eq_of_lt (Nat.lt_of_lt_of_le (Nat.mod_lt _ (p256_pos t)) (Nat.pow_le_pow_right (by decide) (by omega))), Nat.zero_mul, Nat.add_zero, Nat.pow_succ, Nat.mod_mul, Nat.mul_comm (S / 256 ^ t % 256)]
theorem ints_getB {k n i off : Nat} (h : i < k) (ho : off = i) : (ints (toB k n))[off]? = some (.int .i64 ((n / 256 ^ (k - 1 - i) % 256 : Nat) : Int)) := by
  subst ho; simp [ints, toB_at h]
theorem ints_setB {k V t e off : Nat} {v : Value} (ht : t < k) (he : e < 256) (ho : off = k - 1 - t) (hv : v = .int .i64 ((e : Nat) : Int)) : (ints (toB k V)).set off v = ints (toB k (setB V t e)) := by
  subst hv; subst ho
  rw [← toB_set ht he]; simp [ints, List.map_set]
theorem cmpB_same {x y k : Nat} (h : x / 256 ^ (k + 1) = y / 256 ^ (k + 1)) (hd : x / 256 ^ k % 256 = y / 256 ^ k % 256) : x / 256 ^ k = y / 256 ^ k := by
  rw [Nat.pow_succ, ← Nat.div_div_eq_div_mul, ← Nat.div_div_eq_div_mul] at h
  omega
theorem cmpB_lt {x y k : Nat} (h : x / 256 ^ (k + 1) = y / 256 ^ (k + 1)) (hd : x / 256 ^ k % 256 < y / 256 ^ k % 256) : x < y := by
  rw [Nat.pow_succ, ← Nat.div_div_eq_div_mul, ← Nat.div_div_eq_div_mul] at h
  rcases Nat.lt_or_ge x y with h1 | h1
  · exact h1
  · have := Nat.div_le_div_right (c := 256 ^ k) h1
    omega
def cmpV (x y : Nat) : Int := if x < y then -1 else if x = y then 0 else 1
theorem cmpV_lt {x y : Nat} (h : x < y) : cmpV x y = -1 := if_pos h
theorem cmpV_gt {x y : Nat} (h : y < x) : cmpV x y = 1 := by unfold cmpV; rw [if_neg (by omega), if_neg (by omega)]
theorem cmpV_eq {x y : Nat} (h : x = y) : cmpV x y = 0 := by unfold cmpV; rw [if_neg (by omega), if_pos h]
theorem cmpV_neg {x y : Nat} : cmpV x y < 0 ↔ x < y := by
  unfold cmpV
  split
  · simp [*]
  · split <;> simp [*]
theorem cmpV_ge {x y : Nat} : 0 ≤ cmpV x y ↔ y ≤ x := by
  have := cmpV_neg (x := x) (y := y)
  omega
theorem who_next {v n i : Nat} (h : v < 256 ^ (n - i)) (hi : i < n) (hd : v / 256 ^ (n - 1 - i) % 256 = 0) : v < 256 ^ (n - (i + 1)) := by
  rw [show n - i = (n - 1 - i) + 1 by omega, Nat.pow_succ] at h
  have h2 : v / 256 ^ (n - 1 - i) < 256 := Nat.div_lt_of_lt_mul h
  have h3 : v / 256 ^ (n - 1 - i) = 0 := by
    generalize v / 256 ^ (n - 1 - i) = z at *
    omega
  rw [show n - (i + 1) = n - 1 - i by omega]
  exact Nat.lt_of_div_eq_zero (p256_pos _) h3
theorem who_bad {v n i : Nat} (hi : i < n - 32) (hd : v / 256 ^ (n - 1 - i) % 256 ≠ 0) : ¬ v < 256 ^ 32 := by
  intro h
  have : v / 256 ^ (n - 1 - i) = 0 := Nat.div_eq_of_lt (Nat.lt_of_lt_of_le h (Nat.pow_le_pow_right (by decide) (by omega)))
  rw [this] at hd; exact hd rfl
def mixL (A B : List Nat) (k : Nat) : List Nat := A.take k ++ B.drop k
theorem mixL_0 (A B : List Nat) : mixL A B 0 = B := by simp [mixL]
theorem mixL_all {A B : List Nat} {k : Nat} (hA : A.length = k) (hB : B.length = k) : mixL A B k = A := by
  rw [mixL, List.take_of_length_le (by omega), List.drop_of_length_le (by omega), List.append_nil]
theorem length_mixL {A B : List Nat} {k n : Nat} (hA : A.length = n) (hB : B.length = n) (h : k ≤ n) : (mixL A B k).length = n := by
  simp [mixL, hA, hB]; omega
theorem ints_setp (p q : List Nat) (b d : Nat) : (ints (p ++ b :: q)).set p.length (.int .i64 ((d : Nat) : Int)) = ints (p ++ d :: q) := by
  unfold ints
  rw [List.map_append, List.set_append_right _ _ (by simp), List.length_map, Nat.sub_self, List.map_append]
  simp
theorem mixL_set {A B : List Nat} {k n d off : Nat} {v : Value} (hA : A.length = n) (hB : B.length = n) (h : k < n) (hd : d = A.getD k 0) (ho : off = k) (hv : v = .int .i64 ((d : Nat) : Int)) : (ints (mixL A B k)).set off v = ints (mixL A B (k + 1)) := by
  subst hv; subst ho; subst hd
  have e : B.drop off = B[off]'(by omega) :: B.drop (off + 1) := List.drop_eq_getElem_cons (by omega)
  have e2 : A.take (off + 1) = A.take off ++ [A[off]'(by omega)] := take_snoc A off (by omega)
  have e3 : A.getD off 0 = A[off]'(by omega) := by rw [List.getD_eq_getElem?_getD, List.getElem?_eq_getElem (by omega)]; rfl
  have hl : (A.take off).length = off := by rw [List.length_take]; omega
  unfold mixL
  rw [e, e2, e3, List.append_assoc, List.singleton_append]
  have := ints_setp (A.take off) (B.drop (off + 1)) (B[off]'(by omega)) (A[off]'(by omega))
  rwa [hl] at this
theorem mixL_get {A B : List Nat} {k n i off : Nat} (hA : A.length = n) (hB : B.length = n) (h : i < n) (hk : k ≤ i) (ho : off = i) : (ints (mixL A B k))[off]? = some (.int .i64 ((B.getD i 0 : Nat) : Int)) := by
  subst ho
  have hl : (A.take k).length = k := by rw [List.length_take]; omega
  unfold mixL ints
  rw [List.getElem?_map, List.getElem?_append_right (by omega), hl, List.getElem?_drop, show k + (off - k) = off by omega, List.getElem?_eq_getElem (by omega), List.getD_eq_getElem?_getD, List.getElem?_eq_getElem (by omega)]
  rfl
theorem twice_dig {r b T : Nat} (hb : b ≤ 1) : (2 * r + b) / 256 ^ T % 256 = r / 256 ^ T % 256 % 128 * 2 + (if 0 < T then r / 256 ^ (T - 1) % 256 / 128 else b) := by
  cases T with
  | zero => simp; omega
  | succ T =>
    rw [if_pos (by omega), show T + 1 - 1 = T by omega]
    have h1 : (2 * r + b) / 256 ^ T / 2 = r / 256 ^ T := by
      rw [Nat.div_div_eq_div_mul, Nat.mul_comm (256 ^ T) 2, ← Nat.div_div_eq_div_mul, show (2 * r + b) / 2 = r by omega]
    rw [Nat.pow_succ, ← Nat.div_div_eq_div_mul, ← Nat.div_div_eq_div_mul]
    omega
theorem bit_of {x i : Nat} (h : i < 256) : x / 256 ^ (31 - i / 8) % 256 / 2 ^ (7 - i % 8) % 2 = x / 2 ^ (255 - i) % 2 := by
  have e : 255 - i = 8 * (31 - i / 8) + (7 - i % 8) := by omega
  rw [e, Nat.pow_add, p2_256, ← Nat.div_div_eq_div_mul]
  have hs : 7 - i % 8 < 8 := by omega
  generalize x / 256 ^ (31 - i / 8) = z
  generalize 7 - i % 8 = s at *
  have : s = 0 ∨ s = 1 ∨ s = 2 ∨ s = 3 ∨ s = 4 ∨ s = 5 ∨ s = 6 ∨ s = 7 := by omega
  rcases this with rfl | rfl | rfl | rfl | rfl | rfl | rfl | rfl <;> simp <;> omega
theorem top_next {x i : Nat} (h : i < 256) : x / 2 ^ (256 - (i + 1)) = 2 * (x / 2 ^ (256 - i)) + x / 2 ^ (255 - i) % 2 := by
  rw [show 256 - (i + 1) = 255 - i by omega, show 256 - i = (255 - i) + 1 by omega, Nat.pow_succ, ← Nat.div_div_eq_div_mul]
  omega
theorem quo_step {X b y : Nat} (hy : 0 < y) (hb : b ≤ 1) : (2 * X + b) / y = 2 * (X / y) + (if y ≤ 2 * (X % y) + b then 1 else 0) ∧ (2 * X + b) % y = (if y ≤ 2 * (X % y) + b then 2 * (X % y) + b - y else 2 * (X % y) + b) := by
  have h1 := Nat.div_add_mod X y
  have h2 := Nat.mod_lt X hy
  have e : 2 * X + b = (2 * (X % y) + b) + y * (2 * (X / y)) := by
    have : y * (2 * (X / y)) = 2 * (y * (X / y)) := Nat.mul_left_comm _ _ _
    omega
  rw [e, Nat.add_mul_div_left _ _ hy, Nat.add_mul_mod_self_left]
  generalize X % y = r at *
  by_cases h : y ≤ 2 * r + b
  · rw [if_pos h, if_pos h]
    have h3 : (2 * r + b) / y = 1 := by
      rw [Nat.div_eq_sub_div hy h, Nat.div_eq_of_lt (by omega)]
    have h4 : (2 * r + b) % y = 2 * r + b - y := by
      rw [Nat.mod_eq_sub_mod h, Nat.mod_eq_of_lt (by omega)]
    omega
  · rw [if_neg h, if_neg h, Nat.div_eq_of_lt (by omega), Nat.mod_eq_of_lt (by omega)]
    omega
def quoT (x y i : Nat) : Nat := x / 2 ^ (256 - i) / y * 2 ^ (256 - i)
def remT (x y i : Nat) : Nat := x / 2 ^ (256 - i) % y
theorem quoT_0 {x y : Nat} (hx : x < 2 ^ 256) : quoT x y 0 = 0 := by unfold quoT; rw [Nat.div_eq_of_lt hx]; simp
theorem remT_0 {x y : Nat} (hx : x < 2 ^ 256) : remT x y 0 = 0 := by unfold remT; rw [Nat.div_eq_of_lt hx]; simp
theorem quoT_end (x y : Nat) : quoT x y 256 = x / y := by simp [quoT]
theorem remT_end (x y : Nat) : remT x y 256 = x % y := by simp [remT]
theorem bit2_le (x k : Nat) : x / 2 ^ k % 2 ≤ 1 := by omega
theorem remT_next {x y i : Nat} (hy : 0 < y) (h : i < 256) : remT x y (i + 1) = if y ≤ 2 * remT x y i + x / 2 ^ (255 - i) % 2 then 2 * remT x y i + x / 2 ^ (255 - i) % 2 - y else 2 * remT x y i + x / 2 ^ (255 - i) % 2 := by
  unfold remT
  rw [top_next h]
  exact (quo_step hy (bit2_le _ _)).2
theorem quoT_next {x y i : Nat} (hy : 0 < y) (h : i < 256) : quoT x y (i + 1) = quoT x y i + if y ≤ 2 * remT x y i + x / 2 ^ (255 - i) % 2 then 2 ^ (255 - i) else 0 := by
  unfold quoT remT
  rw [top_next h, (quo_step hy (bit2_le _ _)).1, show 256 - (i + 1) = 255 - i by omega, Nat.add_mul]
  congr 1
  · rw [show 256 - i = (255 - i) + 1 by omega, Nat.pow_succ, Nat.mul_comm (2 ^ (255 - i)) 2, ← Nat.mul_assoc, Nat.mul_comm 2]
  · split <;> simp
theorem quoT_dig {x y i : Nat} (h : i < 256) : quoT x y i / 256 ^ (31 - i / 8) % 256 % 2 ^ (7 - i % 8 + 1) = 0 := by
  have e : 256 - i = 8 * (31 - i / 8) + (7 - i % 8 + 1) := by omega
  unfold quoT
  rw [e, Nat.pow_add, p2_256, Nat.mul_comm (256 ^ (31 - i / 8)), ← Nat.mul_assoc, Nat.mul_div_cancel _ (p256_pos _)]
  have hs : 7 - i % 8 < 8 := by omega
  generalize x / _ / y = q
  generalize 7 - i % 8 = s at *
  have e2 : (256 : Nat) = 2 ^ (s + 1) * 2 ^ (7 - s) := by rw [← Nat.pow_add, show s + 1 + (7 - s) = 8 by omega]
  rw [e2, Nat.mod_mul_right_mod, Nat.mul_mod_left]
theorem quoT_or {x y i : Nat} (h : i < 256) : quoT x y i / 256 ^ (31 - i / 8) % 256 ||| 2 ^ (7 - i % 8) = quoT x y i / 256 ^ (31 - i / 8) % 256 + 2 ^ (7 - i % 8) := or_bit (quoT_dig h)
theorem quoT_lt {x y i : Nat} (h : i < 256) : quoT x y i / 256 ^ (31 - i / 8) % 256 + 2 ^ (7 - i % 8) < 256 := by
  have h1 := quoT_dig (x := x) (y := y) h
  have h2 := Nat.mod_lt (quoT x y i / 256 ^ (31 - i / 8)) (by decide : 256 > 0)
  generalize quoT x y i / 256 ^ (31 - i / 8) % 256 = d at *
  have hs : 7 - i % 8 < 8 := by omega
  generalize 7 - i % 8 = s at *
  have : s = 0 ∨ s = 1 ∨ s = 2 ∨ s = 3 ∨ s = 4 ∨ s = 5 ∨ s = 6 ∨ s = 7 := by omega
  rcases this with rfl | rfl | rfl | rfl | rfl | rfl | rfl | rfl <;> simp at * <;> omega
theorem quoT_set {x y i : Nat} (h : i < 256) : setB (quoT x y i) (31 - i / 8) (quoT x y i / 256 ^ (31 - i / 8) % 256 + 2 ^ (7 - i % 8)) = quoT x y i + 2 ^ (255 - i) := by
  have h1 := setB_eq (quoT x y i) (31 - i / 8) (quoT x y i / 256 ^ (31 - i / 8) % 256 + 2 ^ (7 - i % 8))
  have e : 2 ^ (255 - i) = 2 ^ (7 - i % 8) * 256 ^ (31 - i / 8) := by
    rw [← p2_256, ← Nat.pow_add]; congr 1; omega
  rw [Nat.add_mul] at h1
  omega
theorem intsD {xs : List Nat} {i : Nat} (h : i < xs.length) : (ints xs)[i]? = some (.int .i64 ((xs.getD i 0 : Nat) : Int)) := by simp [ints, List.getD_eq_getElem?_getD, h]
theorem price_at {c off : Nat} (h : c < 28) (ho : off = c) : (ints [1, 1, 1, 1, 1, 1, 2, 2, 5, 10, 10, 2, 2, 2, 5, 5, 2, 2, 2, 2, 2, 2, 2, 2, 200, 200, 200, 500])[off]? = some (.int .i64 ((priceN c : Nat) : Int)) := by
  subst ho
  exact intsD h
theorem takes_at {c off : Nat} (h : c < 28) (ho : off = c) : (ints [0, 1, 0, 1, 0, 0, 2, 2, 2, 2, 2, 2, 2, 1, 0, 1, 0, 0, 0, 0, 0, 0, 0, 0, 1, 2, 2, 3])[off]? = some (.int .i64 ((takesN c : Nat) : Int)) := by
  subst ho
  exact intsD h
theorem lays_at {c off : Nat} (h : c < 28) (ho : off = c) : (ints [0, 0, 1, 0, 1, 0, 1, 1, 1, 1, 1, 1, 1, 1, 0, 0, 1, 1, 1, 1, 1, 1, 1, 1, 1, 0, 1, 0])[off]? = some (.int .i64 ((laysN c : Nat) : Int)) := by
  subst ho
  exact intsD h
end Go.Proofs.Ytlapmbkfmbkdoaa
end
section
namespace Go.Proofs.Ytlapmbkfmbkdoaa
open Go Go.Fw Go.RowKit
attribute [local irreducible] Go.Oper.wp Go.Code.wp Go.wpList Go.Fw.WL Go.Calls
def RunR (r : Played) (v : Value) (s : Seg) : Prop := ∃ A c, v = .tuple #[.agg (wc r.v ++ [Value.int .i64 r.gas]).toArray, .int .i64 r.e, .slice A r.asks.length c] ∧ OwnS s A r.asks.length c (r.asks.flatMap askc) 72 30
theorem PlayIn.old {F : Fx} {w0 w : World} {bs : List Seg} (h : PlayIn F w0) (hS : St w0 [] bs w) : PlayIn F w := ⟨h.ok, h.inner, h.code.old hS, h.args.old hS, h.reps.old hS, h.b1, h.b2, h.b3, h.tok, h.time, h.gas, h.errs⟩
end Go.Proofs.Ytlapmbkfmbkdoaa
end
section
namespace Go.Proofs.Ytlapmbkfmbkdoaa
open Go Go.Fw Go.RowKit
attribute [local irreducible] Go.Oper.wp Go.Code.wp Go.wpList Go.Fw.WL Go.Calls
def hostF (F : Fx) (A : Option Addr) (c : Nat) (l : List (Nat × Int)) : Fx := { F with qA := A, qc := c, reps := l }
theorem PlayIn.hostF {F : Fx} {w : World} (h : PlayIn F w) {A : Option Addr} {c : Nat} {l : List (Nat × Int)} (hl : l.length ≤ 3518437208781) (hr : ∀ r ∈ l, repOk r) (hR : Rd w A (l.flatMap repc)) : PlayIn (hostF F A c l) w := ⟨⟨h.ok.byt, h.ok.cap, h.ok.cap2, h.ok.argsW, h.ok.acap, h.ok.acap2, h.ok.self, h.ok.caller, h.ok.amount, fun r hr2 => (hr r hr2).1, Nat.le_trans hl (by decide)⟩, h.inner, h.code, h.args, hR, h.b1, h.b2, hl, h.tok, h.time, h.gas, fun r hr2 => (hr r hr2).2⟩
end Go.Proofs.Ytlapmbkfmbkdoaa
end
section
namespace Go.Proofs.Ytlapmbkfmbkdoaa
open Go Go.Fw Go.RowKit
attribute [local irreducible] Go.Oper.wp Go.Code.wp Go.wpList Go.Fw.WL Go.Calls
def RetB (n x : Nat) (v : Value) (s : Seg) : Prop := ∃ b, v = .slice (some ⟨b, 0, none⟩) n n ∧ s = [(b, Cel (ints (toB n x)) 3)]
theorem ints_getT {k n t off : Nat} (h : t < k) (ho : off = k - 1 - t) : (ints (toB k n))[off]? = some (.int .i64 ((n / 256 ^ t % 256 : Nat) : Int)) := by
  have := ints_getB (k := k) (n := n) (i := off) (off := off) (by omega) rfl
  rwa [ho, show k - 1 - (k - 1 - t) = t by omega, ← ho] at this
def mkU (N : Nat) (f : Nat → Nat) (k : Nat) : List Value := (List.range N).map fun j => .int .u8 (if j < k then ((f j : Nat) : Int) else 0)
theorem length_mkU (N : Nat) (f : Nat → Nat) (k : Nat) : (mkU N f k).length = N := by simp [mkU]
theorem mkU_at (N : Nat) (f : Nat → Nat) (k off : Nat) (v : Value) (h : v = .int .u8 ((f k : Nat) : Int)) (ho : off = k) : (mkU N f k).set off v = mkU N f (k + 1) := by
  subst h; subst ho
  apply List.ext_getElem?
  intro j
  rw [List.getElem?_set]
  simp only [mkU, List.length_map, List.length_range, List.getElem?_map]
  by_cases hj : j < N
  · by_cases hk : off = j
    · subst hk; simp [hj]
    · simp [hk, hj]
      by_cases h1 : j < off
      · simp [h1, Nat.lt_succ_of_lt h1]
      · have : ¬ j < off + 1 := by omega
        simp [h1, this]
  · by_cases hk : off = j
    · subst hk; simp [hj]
    · simp [hk, hj]
theorem mkU_20 (f : Nat → Nat) : mkU 20 f 20 = adc f := by
  have hE : adc f = (List.range 20).map fun i => Value.int .u8 ((f i : Nat) : Int) := rfl
  rw [hE, mkU]
  apply List.map_congr_left
  intro j hj
  simp [List.mem_range.1 hj]
theorem adc_at {f : Nat → Nat} {i off : Nat} (h : i < 20) (ho : off = i) : (adc f)[off]? = some (.int .u8 ((f i : Nat) : Int)) := by
  subst ho
  have hE : adc f = (List.range 20).map fun i => Value.int .u8 ((f i : Nat) : Int) := rfl
  rw [hE]; simp [h]
theorem who_at (a i : Nat) (h : i < 20) {off : Nat} (ho : off = 12 + i) : (ints (toB 32 a))[off]? = some (.int .i64 ((adF a i : Nat) : Int)) := by
  have := ints_getB (k := 32) (n := a) (i := 12 + i) (off := off) (by omega) ho
  rwa [show 32 - 1 - (12 + i) = 19 - i by omega] at this
theorem tok_iff {a : Nat} (ha : a < 115792089237316195423570985008687907853269984665640564039457584007913129639936) : (dg a 1 = 0 ∧ dg a 2 = 0 ∧ dg a 3 = 0 ∧ dg a 0 < 64) ↔ a < 64 := by
  have h := wide_parts a ha
  have h0 := dg_lt a 0
  constructor
  · rintro ⟨h1, h2, h3, h4⟩; omega
  · intro h4; omega
theorem intsO {xs : List Nat} {i off : Nat} (h : i < xs.length) (ho : off = i) : (ints xs)[off]? = some (.int .i64 ((xs.getD i 0 : Nat) : Int)) := by subst ho; exact intsD h
theorem tok_0 {a : Nat} (ha : a < 64) : dg a 0 = a := by rw [dg0]; omega
theorem ze28b (f : Nat → Nat) : zeT Try.prog 28 (.agg (mkU 20 f 0).toArray) := by unfold zeT; kernel_rfl
theorem count_wc {n : Nat} (h : n < 18446744073709551616) : [Value.int .u64 ((n % 18446744073709551616 : Nat) : Int), .int .u64 0, .int .u64 0, .int .u64 0] = wc n := by
  have h0 : dg n 0 = n := by rw [dg0]; omega
  have h1 : dg n 1 = 0 := by rw [dg1]; omega
  have h2 : dg n 2 = 0 := by rw [dg2]; omega
  have h3 : dg n 3 = 0 := by rw [dg3]; omega
  simp only [wc, h0, h1, h2, h3, Nat.mod_eq_of_lt h]; rfl
theorem price_calls (c : Nat) (w0 : World) (hc : c < 28) : Ret Try.prog 26 [.int .i64 ((c : Nat) : Int)] w0 [] (fun v s => v = .int .i64 ((priceN c : Nat) : Int) ∧ s = []) := by
  refine fn_start Try.func26 rfl Try.ntmps26 rfl [(0, .int .i64 ((c : Nat) : Int))] ⟨rfl, trivial⟩ ?_
  intro Q a hP hF hR hN
  have hS := St.start w0
  refine wp_seq_k fun K1 hK1 => ?_
  refine wp_region_lit ?_
  refine sv' hF (wn rfl) rfl rfl (R.assign (hF.ev rfl)) fun a hF => ?_
  refine s0 ?_
  refine then_n (hK1 _ _ ?_)
  refine wp_seq_k fun K2 hK2 => ?_
  refine wp_region_lit ?_
  refine so (wn rfl) (O.buildSlice (l := ints [1, 1, 1, 1, 1, 1, 2, 2, 5, 10, 10, 2, 2, 2, 5, 5, 2, 2, 2, 2, 2, 2, 2, 2, 200, 200, 200, 500]) rfl rfl hF Try.underlying61 inf3 rfl rfl (hF.evp rfl) (by decide) rfl hS fun b4 a w hF hS => ?_)
  refine sv' hF (wn rfl) rfl rfl (R.assign (hF.ev rfl)) fun a hF => ?_
  refine s0 ?_
  refine then_n (hK2 _ _ ?_)
  refine wp_seq_k fun K3 hK3 => ?_
  refine wp_region_lit ?_
  refine sv' hF (wn rfl) rfl rfl (R.move (hF.ev rfl)) fun a hF => ?_
  refine sv' hF (wn rfl) rfl rfl (R.move (hF.ev rfl)) fun a hF => ?_
  refine sv' hF (wn rfl) rfl rfl (R.indexS Try.underlying61 sz3 (hF.ev rfl) (hF.ev rfl) (by omega) (by omega)) fun a hF => ?_
  refine sv' hF (wn rfl) rfl rfl (R.load one3 (hF.ev rfl) hS .h (price_at hc (by omega))) fun a hF => ?_
  refine sv' hF (wn rfl) rfl rfl (R.assign (hF.ev rfl)) fun a hF => ?_
  refine s0 ?_
  refine then_n (hK3 _ _ ?_)
  refine wp_ret (hR _ _ _ _ _ hF (run_results Try.results26 (.t hF rfl (.nil))) ?_)
  exact ⟨_, [], rfl, ⟨rfl, rfl⟩, hS.none⟩
theorem wants_calls (c : Nat) (w0 : World) (hc : c < 28) : Ret Try.prog 27 [.int .i64 ((c : Nat) : Int)] w0 [] (fun v s => v = .int .i64 ((takesN c : Nat) : Int) ∧ s = []) := by
  refine fn_start Try.func27 rfl Try.ntmps27 rfl [(0, .int .i64 ((c : Nat) : Int))] ⟨rfl, trivial⟩ ?_
  intro Q a hP hF hR hN
  have hS := St.start w0
  refine wp_seq_k fun K1 hK1 => ?_
  refine wp_region_lit ?_
  refine sv' hF (wn rfl) rfl rfl (R.assign (hF.ev rfl)) fun a hF => ?_
  refine s0 ?_
  refine then_n (hK1 _ _ ?_)
  refine wp_seq_k fun K2 hK2 => ?_
  refine wp_region_lit ?_
  refine so (wn rfl) (O.buildSlice (l := ints [0, 1, 0, 1, 0, 0, 2, 2, 2, 2, 2, 2, 2, 1, 0, 1, 0, 0, 0, 0, 0, 0, 0, 0, 1, 2, 2, 3]) rfl rfl hF Try.underlying61 inf3 rfl rfl (hF.evp rfl) (by decide) rfl hS fun b4 a w hF hS => ?_)
  refine sv' hF (wn rfl) rfl rfl (R.assign (hF.ev rfl)) fun a hF => ?_
  refine s0 ?_
  refine then_n (hK2 _ _ ?_)
  refine wp_seq_k fun K3 hK3 => ?_
  refine wp_region_lit ?_
  refine sv' hF (wn rfl) rfl rfl (R.move (hF.ev rfl)) fun a hF => ?_
  refine sv' hF (wn rfl) rfl rfl (R.move (hF.ev rfl)) fun a hF => ?_
  refine sv' hF (wn rfl) rfl rfl (R.indexS Try.underlying61 sz3 (hF.ev rfl) (hF.ev rfl) (by omega) (by omega)) fun a hF => ?_
  refine sv' hF (wn rfl) rfl rfl (R.load one3 (hF.ev rfl) hS .h (takes_at hc (by omega))) fun a hF => ?_
  refine sv' hF (wn rfl) rfl rfl (R.assign (hF.ev rfl)) fun a hF => ?_
  refine s0 ?_
  refine then_n (hK3 _ _ ?_)
  refine wp_ret (hR _ _ _ _ _ hF (run_results Try.results27 (.t hF rfl (.nil))) ?_)
  exact ⟨_, [], rfl, ⟨rfl, rfl⟩, hS.none⟩
theorem leaves_calls (c : Nat) (w0 : World) (hc : c < 28) : Ret Try.prog 28 [.int .i64 ((c : Nat) : Int)] w0 [] (fun v s => v = .int .i64 ((laysN c : Nat) : Int) ∧ s = []) := by
  refine fn_start Try.func28 rfl Try.ntmps28 rfl [(0, .int .i64 ((c : Nat) : Int))] ⟨rfl, trivial⟩ ?_
  intro Q a hP hF hR hN
  have hS := St.start w0
  refine wp_seq_k fun K1 hK1 => ?_
  refine wp_region_lit ?_
  refine sv' hF (wn rfl) rfl rfl (R.assign (hF.ev rfl)) fun a hF => ?_
  refine s0 ?_
  refine then_n (hK1 _ _ ?_)
  refine wp_seq_k fun K2 hK2 => ?_
  refine wp_region_lit ?_
  refine so (wn rfl) (O.buildSlice (l := ints [0, 0, 1, 0, 1, 0, 1, 1, 1, 1, 1, 1, 1, 1, 0, 0, 1, 1, 1, 1, 1, 1, 1, 1, 1, 0, 1, 0]) rfl rfl hF Try.underlying61 inf3 rfl rfl (hF.evp rfl) (by decide) rfl hS fun b4 a w hF hS => ?_)
  refine sv' hF (wn rfl) rfl rfl (R.assign (hF.ev rfl)) fun a hF => ?_
  refine s0 ?_
  refine then_n (hK2 _ _ ?_)
  refine wp_seq_k fun K3 hK3 => ?_
  refine wp_region_lit ?_
  refine sv' hF (wn rfl) rfl rfl (R.move (hF.ev rfl)) fun a hF => ?_
  refine sv' hF (wn rfl) rfl rfl (R.move (hF.ev rfl)) fun a hF => ?_
  refine sv' hF (wn rfl) rfl rfl (R.indexS Try.underlying61 sz3 (hF.ev rfl) (hF.ev rfl) (by omega) (by omega)) fun a hF => ?_
  refine sv' hF (wn rfl) rfl rfl (R.load one3 (hF.ev rfl) hS .h (lays_at hc (by omega))) fun a hF => ?_
  refine sv' hF (wn rfl) rfl rfl (R.assign (hF.ev rfl)) fun a hF => ?_
  refine s0 ?_
  refine then_n (hK3 _ _ ?_)
  refine wp_ret (hR _ _ _ _ _ hF (run_results Try.results28 (.t hF rfl (.nil))) ?_)
  exact ⟨_, [], rfl, ⟨rfl, rfl⟩, hS.none⟩
theorem dig_calls (x : Nat) (w0 : World) : Ret Try.prog 40 [wv x] w0 [] (RetB 32 x) := by
  refine fn_start Try.func40 rfl Try.ntmps40 rfl [(0, wv x)] ⟨rfl, trivial⟩ ?_
  intro Q a hP hF hR hN
  have hS := St.start w0
  refine wp_seq_k fun K1 hK1 => ?_
  refine wp_region_lit ?_
  refine so (wn rfl) (O.box rfl rfl hF (hF.ev rfl) rfl hS fun b1 a w hF hS => ?_)
  refine sv' hF (wn rfl) rfl rfl (R.assign (hF.ev rfl)) fun a hF => ?_
  refine s0 ?_
  refine then_n (hK1 _ _ ?_)
  refine wp_seq_k fun K2 hK2 => ?_
  refine wp_region_lit ?_
  refine so (wn rfl) (O.makeSlice rfl rfl hF Try.underlying61 inf3 rfl rfl (hF.ev rfl) (hF.ev rfl) (by omega) (by omega) (by omega) (by omega) hS fun b5 a w hF hS => ?_)
  rw [show zeros [Value.int .i64 0] (Int.toNat 32) = mki 32 (fun i => x / 256 ^ (31 - i) % 256) 0 from mki_0 32 _] at hS
  refine sv' hF (wn rfl) rfl rfl (R.assign (hF.ev rfl)) fun a hF => ?_
  refine s0 ?_
  refine then_n (hK2 _ _ ?_)
  refine wp_seq_k fun K3 hK3 => ?_
  refine wp_seq_k fun K4 hK4 => ?_
  refine wp_region_lit ?_
  refine sv' hF (wn rfl) rfl rfl (R.assign (hF.ev rfl)) fun a hF => ?_
  refine s0 ?_
  refine then_n (hK4 _ _ ?_)
  refine wp_block ?_
  refine wp_loop_N (fun g a w => ∃ (i : Nat), 32 - i = g ∧ Fr 26 [(1, .pointer (some ⟨b1, 0, none⟩)), (3, .slice (some ⟨b5, 0, none⟩) 32 32), (4, .int .i64 ((i : Nat) : Int))] a ∧ St w0 [] [[(b5, Cel (mki 32 (fun i => x / 256 ^ (31 - i) % 256) i) 3)], [(b1, Cel (wc x) 31)]] w ∧ (i ≤ 32)) (32 - 0) ?_ ?_
  · exact ⟨0, rfl, hF.sub ⟨rfl, rfl, rfl, trivial⟩, hS.sel [0, 1] rfl rfl, by omega⟩
  · rintro KL1 g a w ⟨i, hg1, hF, hS, hi⟩ hKL1
    refine wp_seq_k fun K5 hK5 => ?_
    refine wp_seq_k fun K6 hK6 => ?_
    refine wp_region_lit ?_
    refine sv' hF (wn rfl) rfl rfl (R.move (hF.ev rfl)) fun a hF => ?_
    refine sv' hF (wn rfl) rfl rfl (R.lss (hF.ev rfl) (hF.ev rfl)) fun a hF => ?_
    refine s0 ?_
    refine then_n (hK6 _ _ ?_)
    refine cD hF rfl (fun c1 => ?_) (fun c1 => ?_)
    ·
      refine wp_skip ?_
      refine then_n (hK5 _ _ ?_)
      refine wp_seq_k fun K7 hK7 => ?_
      refine wp_block ?_
      refine wp_region_lit ?_
      refine sv' hF (wn rfl) rfl rfl (R.move (hF.ev rfl)) fun a hF => ?_
      refine sv' hF (wn rfl) rfl rfl (R.move (hF.ev rfl)) fun a hF => ?_
      refine sv' hF (wn rfl) rfl rfl (R.move (hF.ev rfl)) fun a hF => ?_
      refine sv' hF (wn rfl) rfl rfl (R.quoI (hF.ev rfl) (hF.ev rfl) (by omega)) fun a hF => ?_
      refine sv' hF (wn rfl) rfl rfl (R.subI (hF.ev rfl) (hF.ev rfl) (by omega)) fun a hF => ?_
      refine sv' hF (wn rfl) rfl rfl (R.indexA Try.underlying31 sz29 (hF.ev rfl) (hF.ev rfl) (by omega) (by omega)) fun a hF => ?_
      refine sv' hF (wn rfl) rfl rfl (R.load one29 (hF.ev rfl) hS (.t .h) ((by (have h9 := wc_at x (3 - i / 8) (by omega)); simpa using (show (wc x)[((3 : Int) - (i : Int) / 8).toNat * 1]? = _ by rw [show ((3 : Int) - (i : Int) / 8).toNat * 1 = 0 + ((3 - i / 8 : Nat) : Int).toNat * 1 by omega]; exact h9)))) fun a hF => ?_
      refine sv' hF (wn rfl) rfl rfl (R.move (hF.ev rfl)) fun a hF => ?_
      refine sv' hF (wn rfl) rfl rfl (R.remI (hF.ev rfl) (hF.ev rfl) (by omega)) fun a hF => ?_
      refine sv' hF (wn rfl) rfl rfl (R.mulI (hF.ev rfl) (hF.ev rfl) (by omega)) fun a hF => ?_
      refine sv' hF (wn rfl) rfl rfl (R.subI (hF.ev rfl) (hF.ev rfl) (by omega)) fun a hF => ?_
      refine sv' hF (wn rfl) rfl rfl (R.shrU (m := 56 - 8 * (i % 8)) (hF.ev rfl) ((hF.ev rfl).trans (congrArg (Value.int .i64) (by omega))) (by omega)) fun a hF => ?_
      refine sv' hF (wn rfl) rfl rfl (R.as (u := .int .u64 ((x / 256 ^ (31 - i) % 256 : Nat) : Int)) (R.andU (hF.ev rfl) (hF.ev rfl) (Nat.lt_of_le_of_lt (Nat.div_le_self _ _) (dg_lt _ _)) (by decide)) (congrArg (fun z : Nat => Value.int .u64 (z : Int)) (dig_40 (by omega)))) fun a hF => ?_
      refine sv' hF (wn rfl) rfl rfl (R.convI Try.underlying29 Try.underlying3 (hF.ev rfl) (by omega)) fun a hF => ?_
      refine sv' hF (wn rfl) rfl rfl (R.indexS Try.underlying61 sz3 (hF.ev rfl) (hF.ev rfl) (by omega) (by omega)) fun a hF => ?_
      refine so (wn rfl) (O.store sz3 (hF.ev rfl) (hF.ev rfl) rfl rfl hS .h (mki_at 32 (fun i => x / 256 ^ (31 - i) % 256) i _ rfl) (by rw [length_mki]; omega) fun w hS => ?_)
      refine s0 ?_
      refine blk_n ?_
      refine then_n (hK7 _ _ ?_)
      refine wp_region_lit ?_
      refine sv' hF (wn rfl) rfl rfl (R.move (hF.ev rfl)) fun a hF => ?_
      refine sv' hF (wn rfl) rfl rfl (R.addI (hF.ev rfl) (hF.ev rfl) (by omega)) fun a hF => ?_
      refine sv' hF (wn rfl) rfl rfl (R.assign (hF.ev rfl)) fun a hF => ?_
      refine s0 ?_
      refine then_n (hKL1 (32 - (i + 1)) _ _ ?_ ?_)
      · omega
      · exact ⟨i + 1, rfl, hF.sub ⟨rfl, rfl, rfl, trivial⟩, hS.sel [0, 1] rfl rfl, by omega⟩
    ·
      obtain rfl : i = 32 := by omega
      rw [mki_all] at hS
      refine wp_exit (then_x (then_x (blk_hit ?_)))
      refine then_n (hK3 _ _ ?_)
      refine wp_seq_k fun K8 hK8 => ?_
      refine wp_region_lit ?_
      refine sv' hF (wn rfl) rfl rfl (R.move (hF.ev rfl)) fun a hF => ?_
      refine sv' hF (wn rfl) rfl rfl (R.assign (hF.ev rfl)) fun a hF => ?_
      refine s0 ?_
      refine then_n (hK8 _ _ ?_)
      refine wp_ret (hR _ _ _ _ _ hF (run_results Try.results40 (.t hF rfl (.nil))) ?_)
      exact ⟨_, _, rfl, ⟨_, rfl, rfl⟩, hS.one .h⟩
theorem number_calls (A : Option Addr) (c : Nat) (xs : List Nat) (w0 : World) (hA : Rd w0 A (ints xs)) (hB : Byt xs) (hl : xs.length ≤ 32) : Ret Try.prog 29 [.slice A xs.length c] w0 [] (fun v s => v = wv (numB xs) ∧ s = []) := by
  refine fn_start Try.func29 rfl Try.ntmps29 rfl [(0, .slice A xs.length c)] ⟨rfl, trivial⟩ ?_
  intro Q a hP hF hR hN
  have hS := St.start w0
  refine wp_seq_k fun K1 hK1 => ?_
  refine wp_region_lit ?_
  refine so (wn rfl) (O.alloc rfl rfl hF ze31 rfl hS fun b2 a w hF hS => ?_)
  refine s0 ?_
  refine then_n (hK1 _ _ ?_)
  refine wp_seq_k fun K2 hK2 => ?_
  refine wp_region_lit ?_
  refine so (wn rfl) (O.alloc rfl rfl hF ze31 rfl hS fun b3 a w hF hS => ?_)
  refine s0 ?_
  refine then_n (hK2 _ _ ?_)
  refine wp_seq_k fun K3 hK3 => ?_
  refine wp_seq_k fun K4 hK4 => ?_
  refine wp_region_lit ?_
  refine sv' hF (wn rfl) rfl rfl (R.assign (hF.ev rfl)) fun a hF => ?_
  refine s0 ?_
  refine then_n (hK4 _ _ ?_)
  refine wp_block ?_
  refine wp_loop_N (fun g a w => ∃ (i : Nat), xs.length - i = g ∧ Fr 33 [(0, .slice A xs.length c), (2, .pointer (some ⟨b2, 0, none⟩)), (3, .pointer (some ⟨b3, 0, none⟩)), (4, .int .i64 ((i : Nat) : Int))] a ∧ St w0 [] [[(b3, Cel (wc (upN xs i)) 31)], [(b2, Cel ([.int .u64 0, .int .u64 0, .int .u64 0, .int .u64 0]) 31)]] w ∧ (i ≤ xs.length)) (xs.length - 0) ?_ ?_
  · exact ⟨0, rfl, hF.sub ⟨rfl, rfl, rfl, rfl, trivial⟩, hS.sel [0, 1] rfl (by rw [upN_0]; rfl), by omega⟩
  · rintro KL1 g a w ⟨i, hg1, hF, hS, hi⟩ hKL1
    refine wp_seq_k fun K5 hK5 => ?_
    refine wp_seq_k fun K6 hK6 => ?_
    refine wp_region_lit ?_
    refine sv' hF (wn rfl) rfl rfl (R.move (hF.ev rfl)) fun a hF => ?_
    refine sv' hF (wn rfl) rfl rfl (R.move (hF.ev rfl)) fun a hF => ?_
    refine sv' hF (wn rfl) rfl rfl (R.len Try.underlying61 (hF.ev rfl)) fun a hF => ?_
    refine sv' hF (wn rfl) rfl rfl (R.lss (hF.ev rfl) (hF.ev rfl)) fun a hF => ?_
    refine s0 ?_
    refine then_n (hK6 _ _ ?_)
    refine cD hF rfl (fun c1 => ?_) (fun c1 => ?_)
    ·
      refine wp_skip ?_
      refine then_n (hK5 _ _ ?_)
      refine wp_seq_k fun K7 hK7 => ?_
      refine wp_block ?_
      refine wp_seq_k fun K8 hK8 => ?_
      refine wp_region_lit ?_
      refine sv' hF (wn rfl) rfl rfl (R.move (hF.ev rfl)) fun a hF => ?_
      refine sv' hF (wn rfl) rfl rfl (R.len Try.underlying61 (hF.ev rfl)) fun a hF => ?_
      refine sv' hF (wn rfl) rfl rfl (R.subI (hF.ev rfl) (hF.ev rfl) (by omega)) fun a hF => ?_
      refine sv' hF (wn rfl) rfl rfl (R.move (hF.ev rfl)) fun a hF => ?_
      refine sv' hF (wn rfl) rfl rfl (R.subI (hF.ev rfl) (hF.ev rfl) (by omega)) fun a hF => ?_
      refine sv' hF (wn rfl) rfl rfl (R.assign (hF.ev rfl)) fun a hF => ?_
      refine s0 ?_
      refine then_n (hK8 _ _ ?_)
      refine wp_drawS hS [(0, 0), (1, 0), (2, 0), (3, 1), (4, 0), (5, 0), (6, 0), (7, 1), (8, 0), (9, 0), (10, 0), (11, 0), (12, 0), (13, 0), (14, 0), (15, 3)] mix (by kernel_rfl) (hP.then.block.then.then.block) fun w hS => ?_
      have hD := hS
      refine dq hF rfl (wn rfl) rfl rfl (fun w => R.move (hF.ev rfl)) fun a hF => ?_
      refine dq hF rfl (wn rfl) rfl rfl (fun w => R.quoI (hF.ev rfl) (hF.ev rfl) (by omega)) fun a hF => ?_
      refine dq hF rfl (wn rfl) rfl rfl (fun w => R.indexA Try.underlying31 sz29 (hF.ev rfl) (hF.ev rfl) (by omega) (by omega)) fun a hF => ?_
      refine dr hF rfl (wn rfl) rfl rfl hD (fun w hD => R.load one29 (hF.ev rfl) hD .h (upN_at (k := (xs.length - 1 - i) / 8) (by omega) (by omega))) fun a hF => ?_
      refine dq hF rfl (wn rfl) rfl rfl (fun w => R.move (hF.ev rfl)) fun a hF => ?_
      refine dq hF rfl (wn rfl) rfl rfl (fun w => R.move (hF.ev rfl)) fun a hF => ?_
      refine dq hF rfl (wn rfl) rfl rfl (fun w => R.indexO Try.underlying61 sz3 (hF.ev rfl) (Rd.ne hA (by rw [length_ints]; omega)) (hF.ev rfl) (by omega) (by omega)) fun a hF => ?_
      refine dr hF rfl (wn rfl) rfl rfl hD (fun w hD => R.loadO one3 (hF.ev rfl) (hA.old hD) (intsO (i := i) (by omega) (by omega))) fun a hF => ?_
      refine dq hF rfl (wn rfl) rfl rfl (fun w => R.as (u := .int .u64 ((xs.getD i 0 : Nat) : Int)) (R.convU Try.underlying3 Try.underlying29 (hF.ev rfl)) (congrArg (fun z : Nat => Value.int .u64 (z : Int)) (Nat.mod_eq_of_lt (by have := byt_getD hB i; omega)))) fun a hF => ?_
      refine dq hF rfl (wn rfl) rfl rfl (fun w => R.move (hF.ev rfl)) fun a hF => ?_
      refine dq hF rfl (wn rfl) rfl rfl (fun w => R.remI (hF.ev rfl) (hF.ev rfl) (by omega)) fun a hF => ?_
      refine dq hF rfl (wn rfl) rfl rfl (fun w => R.mulI (hF.ev rfl) (hF.ev rfl) (by omega)) fun a hF => ?_
      refine dq hF rfl (wn rfl) rfl rfl (fun w => R.shlU (m := 8 * ((xs.length - 1 - i) % 8)) (hF.ev rfl) ((hF.ev rfl).trans (congrArg (Value.int .i64) (by omega))) (by omega)) fun a hF => ?_
      refine dq hF rfl (wn rfl) rfl rfl (fun w => R.orU (hF.ev rfl) (hF.ev rfl) (dg_lt _ _) (Nat.mod_lt _ (by decide))) fun a hF => ?_
      refine dq hF rfl (wn rfl) rfl rfl (fun w => R.indexA Try.underlying31 sz29 (hF.ev rfl) (hF.ev rfl) (by omega) (by omega)) fun a hF => ?_
      refine dw rfl (wn rfl) (O.store sz29 (hF.ev rfl) (hF.ev rfl) rfl rfl hS .h (wc_ord (V := upN xs i) (i := xs.length - 1 - i) (upN_mod (by omega)) (byt_getD hB i) (by omega)) (by show _ < 4; omega) fun w hS => ?_)
      rw [upN_succ (by omega)] at hS
      refine d0 ?_
      refine blk_n ?_
      refine then_n (hK7 _ _ ?_)
      refine wp_region_lit ?_
      refine sv' hF (wn rfl) rfl rfl (R.move (hF.ev rfl)) fun a hF => ?_
      refine sv' hF (wn rfl) rfl rfl (R.addI (hF.ev rfl) (hF.ev rfl) (by omega)) fun a hF => ?_
      refine sv' hF (wn rfl) rfl rfl (R.assign (hF.ev rfl)) fun a hF => ?_
      refine s0 ?_
      refine then_n (hKL1 (xs.length - (i + 1)) _ _ ?_ ?_)
      · omega
      · exact ⟨i + 1, rfl, hF.sub ⟨rfl, rfl, rfl, (congrArg (fun z => some (Value.int .i64 z)) (by omega)), trivial⟩, hS.sel [0, 1] rfl rfl, by omega⟩
    ·
      obtain rfl : i = xs.length := by omega
      rw [upN_all] at hS
      refine wp_exit (then_x (then_x (blk_hit ?_)))
      refine then_n (hK3 _ _ ?_)
      refine wp_seq_k fun K9 hK9 => ?_
      refine wp_region_lit ?_
      refine sv' hF (wn rfl) rfl rfl (R.loadW agg31 (hF.ev rfl) hS .h sz31 (rfl)) fun a hF => ?_
      refine so (wn rfl) (O.storeW sz31 (hF.ev rfl) (hF.ev rfl) (rfl) rfl (by simp [Value.oneCell']) hS (.t .h) (rfl) fun w hS => ?_)
      refine s0 ?_
      refine then_n (hK9 _ _ ?_)
      refine wp_ret (hR _ _ _ _ _ hF (run_results Try.results29 (.cw hF rfl agg31 hS (.t .h) sz31 (rfl) (.nil))) ?_)
      exact ⟨_, [], rfl, ⟨rfl, rfl⟩, hS.none⟩
theorem rtruth_calls (p : Prop) [Decidable p] (w0 : World) : Ret Try.prog 31 [.bool (decide p)] w0 [] (fun v s => v = wv (bit1 (decide p)) ∧ s = []) := by
  refine fn_start Try.func31 rfl Try.ntmps31 rfl [(0, .bool (decide p))] ⟨rfl, trivial⟩ ?_
  intro Q a hP hF hR hN
  have hS := St.start w0
  refine wp_seq_k fun K1 hK1 => ?_
  refine wp_region_lit ?_
  refine so (wn rfl) (O.alloc rfl rfl hF ze31 rfl hS fun b2 a w hF hS => ?_)
  refine s0 ?_
  refine then_n (hK1 _ _ ?_)
  refine wp_seq_k fun K2 hK2 => ?_
  refine wp_seq_k fun K3 hK3 => ?_
  refine wp_region_lit ?_
  refine sv' hF (wn rfl) rfl rfl (R.move (hF.ev rfl)) fun a hF => ?_
  refine s0 ?_
  refine then_n (hK3 _ _ ?_)
  refine cD hF rfl (fun c1 => ?_) (fun c1 => ?_)
  ·
    refine wp_seq_k fun K4 hK4 => ?_
    refine wp_region_lit ?_
    refine sv' hF (wn rfl) rfl rfl (R.buildArr (l := [_, _, _, _]) Try.underlying31 ze31 sz29 (hF.evp rfl) rfl) fun a hF => ?_
    refine so (wn rfl) (O.storeW sz31 (hF.ev rfl) (hF.ev rfl) (rfl) rfl (by simp [Value.oneCell']) hS .h (rfl) fun w hS => ?_)
    refine s0 ?_
    refine then_n (hK4 _ _ ?_)
    refine wp_ret (then_r (hR _ _ _ _ _ hF (run_results Try.results31 (.cw hF rfl agg31 hS .h sz31 (rfl) (.nil))) ?_))
    exact ⟨_, [], rfl, ⟨by rw [decide_eq_true c1]; rfl, rfl⟩, hS.none⟩
  ·
    refine wp_skip ?_
    refine then_n (hK2 _ _ ?_)
    refine wp_seq_k fun K5 hK5 => ?_
    refine wp_region_lit ?_
    refine sv' hF (wn rfl) rfl rfl (R.buildArr (l := [_, _, _, _]) Try.underlying31 ze31 sz29 (hF.evp rfl) rfl) fun a hF => ?_
    refine so (wn rfl) (O.storeW sz31 (hF.ev rfl) (hF.ev rfl) (rfl) rfl (by simp [Value.oneCell']) hS .h (rfl) fun w hS => ?_)
    refine s0 ?_
    refine then_n (hK5 _ _ ?_)
    refine wp_ret (hR _ _ _ _ _ hF (run_results Try.results31 (.cw hF rfl agg31 hS .h sz31 (rfl) (.nil))) ?_)
    exact ⟨_, [], rfl, ⟨by rw [decide_eq_false c1]; rfl, rfl⟩, hS.none⟩
theorem nought_calls (x : Nat) (w0 : World) (hx : x < 115792089237316195423570985008687907853269984665640564039457584007913129639936) : Ret Try.prog 32 [wv x] w0 [] (fun v s => v = .bool (decide (x = 0)) ∧ s = []) := by
  refine fn_start Try.func32 rfl Try.ntmps32 rfl [(0, wv x)] ⟨rfl, trivial⟩ ?_
  intro Q a hP hF hR hN
  have hS := St.start w0
  refine wp_seq_k fun K1 hK1 => ?_
  refine wp_region_lit ?_
  refine so (wn rfl) (O.box rfl rfl hF (hF.ev rfl) rfl hS fun b1 a w hF hS => ?_)
  refine sv' hF (wn rfl) rfl rfl (R.assign (hF.ev rfl)) fun a hF => ?_
  refine s0 ?_
  refine then_n (hK1 _ _ ?_)
  refine wp_seq_k fun K2 hK2 => ?_
  refine wp_region_lit ?_
  refine sv' hF (wn rfl) rfl rfl (R.loadW agg31 (hF.ev rfl) hS .h sz31 (rfl)) fun a hF => ?_
  refine sv' hF (wn rfl) rfl rfl (R.buildArr (l := [_, _, _, _]) Try.underlying31 ze31 sz29 (hF.evp rfl) rfl) fun a hF => ?_
  refine sv' hF (wn rfl) rfl rfl (R.eqlW (x := x) (y := 0) (hF.ev rfl) (hF.ev rfl) hx (by decide)) fun a hF => ?_
  refine sv' hF (wn rfl) rfl rfl (R.assign (hF.ev rfl)) fun a hF => ?_
  refine s0 ?_
  refine then_n (hK2 _ _ ?_)
  refine wp_ret (hR _ _ _ _ _ hF (run_results Try.results32 (.t hF rfl (.nil))) ?_)
  exact ⟨_, [], rfl, ⟨rfl, rfl⟩, hS.none⟩
theorem token_calls (x : Nat) (w0 : World) (hx : x < 115792089237316195423570985008687907853269984665640564039457584007913129639936) (ht : (dg x 1 = 0 ∧ dg x 2 = 0 ∧ dg x 3 = 0 ∧ dg x 0 < 64) ↔ x < 64) : Ret Try.prog 33 [wv x] w0 [] (fun v s => v = .int .i64 (if x < 64 then ((x : Nat) : Int) else -1) ∧ s = []) := by
  refine fn_start Try.func33 rfl Try.ntmps33 rfl [(0, wv x)] ⟨rfl, trivial⟩ ?_
  intro Q a hP hF hR hN
  have hS := St.start w0
  refine wp_seq_k fun K1 hK1 => ?_
  refine wp_region_lit ?_
  refine so (wn rfl) (O.box rfl rfl hF (hF.ev rfl) rfl hS fun b1 a w hF hS => ?_)
  refine sv' hF (wn rfl) rfl rfl (R.assign (hF.ev rfl)) fun a hF => ?_
  refine s0 ?_
  refine then_n (hK1 _ _ ?_)
  refine wp_seq_k fun K2 hK2 => ?_
  refine wp_seq_k fun K3 hK3 => ?_
  have hK3' : ∀ a w, (Fr 24 [(1, .pointer (some ⟨b1, 0, none⟩)), (20, .bool (decide (¬ x < 64)))] a ∧ St w0 [] [[(b1, Cel (wc x) 31)]] w) → K3 a w := by
    rintro a w ⟨hF, hS⟩
    refine hK3 _ _ ?_
    refine cD hF rfl (fun c1 => ?_) (fun c1 => ?_)
    ·
      refine wp_seq_k fun K4 hK4 => ?_
      refine wp_region_lit ?_
      refine sv' hF (wn rfl) rfl rfl (R.assign (hF.ev rfl)) fun a hF => ?_
      refine s0 ?_
      refine then_n (hK4 _ _ ?_)
      refine wp_ret (then_r (hR _ _ _ _ _ hF (run_results Try.results33 (.t hF rfl (.nil))) ?_))
      exact ⟨_, [], rfl, ⟨by rw [if_neg c1]; rfl, rfl⟩, hS.none⟩
    ·
      refine wp_skip ?_
      refine then_n (hK2 _ _ ?_)
      refine wp_seq_k fun K5 hK5 => ?_
      refine wp_region_lit ?_
      refine sv' hF (wn rfl) rfl rfl (R.indexA Try.underlying31 sz29 (hF.ev rfl) (hF.ev rfl) (by omega) (by omega)) fun a hF => ?_
      refine sv' hF (wn rfl) rfl rfl (R.load one29 (hF.ev rfl) hS .h (rfl)) fun a hF => ?_
      have h0 := dg_lt x 0; have ht0 := tok_0 (a := x) (by omega)
      refine sv' hF (wn rfl) rfl rfl (R.convI Try.underlying29 Try.underlying3 (hF.ev rfl) (by omega)) fun a hF => ?_
      refine sv' hF (wn rfl) rfl rfl (R.assign (hF.ev rfl)) fun a hF => ?_
      refine s0 ?_
      refine then_n (hK5 _ _ ?_)
      refine wp_ret (hR _ _ _ _ _ hF (run_results Try.results33 (.t hF rfl (.nil))) ?_)
      exact ⟨_, [], rfl, ⟨by rw [if_pos (by omega), tok_0 (by omega)]; rfl, rfl⟩, hS.none⟩
  refine wp_region_lit ?_
  refine sv' hF (wn rfl) rfl rfl (R.indexA Try.underlying31 sz29 (hF.ev rfl) (hF.ev rfl) (by omega) (by omega)) fun a hF => ?_
  refine sv' hF (wn rfl) rfl rfl (R.load one29 (hF.ev rfl) hS .h (rfl)) fun a hF => ?_
  refine sv' hF (wn rfl) rfl rfl (R.neq (hF.ev rfl) (hF.ev rfl)) fun a hF => ?_
  refine sv' hF (wn rfl) rfl rfl (R.move (hF.ev rfl)) fun a hF => ?_
  refine hF.splitD (t := 6) rfl (fun h6 hF => ?_) (fun h6 hF => ?_)
  ·
    refine sk hF (ws hF rfl rfl rfl rfl) rfl rfl fun a hF => ?_
    refine sk hF (ws hF rfl rfl rfl rfl) rfl rfl fun a hF => ?_
    refine sk hF (ws hF rfl rfl rfl rfl) rfl rfl fun a hF => ?_
    refine sv' hF (wn rfl) rfl rfl (R.pickT (hF.ev rfl) (hF.ev rfl)) fun a hF => ?_
    refine sv' hF (wn rfl) rfl rfl (R.move (hF.ev rfl)) fun a hF => ?_
    refine sk hF (ws hF rfl rfl rfl rfl) rfl rfl fun a hF => ?_
    refine sk hF (ws hF rfl rfl rfl rfl) rfl rfl fun a hF => ?_
    refine sk hF (ws hF rfl rfl rfl rfl) rfl rfl fun a hF => ?_
    refine sv' hF (wn rfl) rfl rfl (R.pickT (hF.ev rfl) (hF.ev rfl)) fun a hF => ?_
    refine sv' hF (wn rfl) rfl rfl (R.move (hF.ev rfl)) fun a hF => ?_
    refine sk hF (ws hF rfl rfl rfl rfl) rfl rfl fun a hF => ?_
    refine sk hF (ws hF rfl rfl rfl rfl) rfl rfl fun a hF => ?_
    refine sk hF (ws hF rfl rfl rfl rfl) rfl rfl fun a hF => ?_
    refine sv' hF (wn rfl) rfl rfl (R.pickT (hF.ev rfl) (hF.ev rfl)) fun a hF => ?_
    refine s0 ?_
    exact then_n (hK3' _ _ ⟨hF.sub ⟨rfl, (congrArg (fun z => some (Value.bool z)) (by first | exact (decide_eq_true (by omega)).symm | exact (decide_eq_false (by omega)).symm | exact decide_eq_decide.2 (by omega))), trivial⟩, hS.sel [0] rfl rfl⟩)
  ·
    refine sv' hF (wy hF rfl rfl rfl) rfl rfl (R.indexA Try.underlying31 sz29 (hF.ev rfl) (hF.ev rfl) (by omega) (by omega)) fun a hF => ?_
    refine sv' hF (wy hF rfl rfl rfl) rfl rfl (R.load one29 (hF.ev rfl) hS .h (rfl)) fun a hF => ?_
    refine sv' hF (wy hF rfl rfl rfl) rfl rfl (R.neq (hF.ev rfl) (hF.ev rfl)) fun a hF => ?_
    refine sv' hF (wn rfl) rfl rfl (R.pickF (hF.ev rfl) (hF.ev rfl)) fun a hF => ?_
    refine sv' hF (wn rfl) rfl rfl (R.move (hF.ev rfl)) fun a hF => ?_
    refine hF.splitD (t := 11) rfl (fun h11 hF => ?_) (fun h11 hF => ?_)
    ·
      refine sk hF (ws hF rfl rfl rfl rfl) rfl rfl fun a hF => ?_
      refine sk hF (ws hF rfl rfl rfl rfl) rfl rfl fun a hF => ?_
      refine sk hF (ws hF rfl rfl rfl rfl) rfl rfl fun a hF => ?_
      refine sv' hF (wn rfl) rfl rfl (R.pickT (hF.ev rfl) (hF.ev rfl)) fun a hF => ?_
      refine sv' hF (wn rfl) rfl rfl (R.move (hF.ev rfl)) fun a hF => ?_
      refine sk hF (ws hF rfl rfl rfl rfl) rfl rfl fun a hF => ?_
      refine sk hF (ws hF rfl rfl rfl rfl) rfl rfl fun a hF => ?_
      refine sk hF (ws hF rfl rfl rfl rfl) rfl rfl fun a hF => ?_
      refine sv' hF (wn rfl) rfl rfl (R.pickT (hF.ev rfl) (hF.ev rfl)) fun a hF => ?_
      refine s0 ?_
      exact then_n (hK3' _ _ ⟨hF.sub ⟨rfl, (congrArg (fun z => some (Value.bool z)) (by first | exact (decide_eq_true (by omega)).symm | exact (decide_eq_false (by omega)).symm | exact decide_eq_decide.2 (by omega))), trivial⟩, hS.sel [0] rfl rfl⟩)
    ·
      refine sv' hF (wy hF rfl rfl rfl) rfl rfl (R.indexA Try.underlying31 sz29 (hF.ev rfl) (hF.ev rfl) (by omega) (by omega)) fun a hF => ?_
      refine sv' hF (wy hF rfl rfl rfl) rfl rfl (R.load one29 (hF.ev rfl) hS .h (rfl)) fun a hF => ?_
      refine sv' hF (wy hF rfl rfl rfl) rfl rfl (R.neq (hF.ev rfl) (hF.ev rfl)) fun a hF => ?_
      refine sv' hF (wn rfl) rfl rfl (R.pickF (hF.ev rfl) (hF.ev rfl)) fun a hF => ?_
      refine sv' hF (wn rfl) rfl rfl (R.move (hF.ev rfl)) fun a hF => ?_
      refine hF.splitD (t := 16) rfl (fun h16 hF => ?_) (fun h16 hF => ?_)
      ·
        refine sk hF (ws hF rfl rfl rfl rfl) rfl rfl fun a hF => ?_
        refine sk hF (ws hF rfl rfl rfl rfl) rfl rfl fun a hF => ?_
        refine sk hF (ws hF rfl rfl rfl rfl) rfl rfl fun a hF => ?_
        refine sv' hF (wn rfl) rfl rfl (R.pickT (hF.ev rfl) (hF.ev rfl)) fun a hF => ?_
        refine s0 ?_
        exact then_n (hK3' _ _ ⟨hF.sub ⟨rfl, (congrArg (fun z => some (Value.bool z)) (by first | exact (decide_eq_true (by omega)).symm | exact (decide_eq_false (by omega)).symm | exact decide_eq_decide.2 (by omega))), trivial⟩, hS.sel [0] rfl rfl⟩)
      ·
        refine sv' hF (wy hF rfl rfl rfl) rfl rfl (R.indexA Try.underlying31 sz29 (hF.ev rfl) (hF.ev rfl) (by omega) (by omega)) fun a hF => ?_
        refine sv' hF (wy hF rfl rfl rfl) rfl rfl (R.load one29 (hF.ev rfl) hS .h (rfl)) fun a hF => ?_
        refine sv' hF (wy hF rfl rfl rfl) rfl rfl (R.geq (hF.ev rfl) (hF.ev rfl)) fun a hF => ?_
        refine sv' hF (wn rfl) rfl rfl (R.pickF (hF.ev rfl) (hF.ev rfl)) fun a hF => ?_
        refine s0 ?_
        exact then_n (hK3' _ _ ⟨hF.sub ⟨rfl, (congrArg (fun z => some (Value.bool z)) (by first | exact (decide_eq_true (by omega)).symm | exact (decide_eq_false (by omega)).symm | exact decide_eq_decide.2 (by omega))), trivial⟩, hS.sel [0] rfl rfl⟩)
theorem rcount_calls (n : Nat) (w0 : World) (hn : n < 18446744073709551616) : Ret Try.prog 47 [.int .i64 ((n : Nat) : Int)] w0 [] (fun v s => v = wv (n) ∧ s = []) := by
  refine fn_start Try.func47 rfl Try.ntmps47 rfl [(0, .int .i64 ((n : Nat) : Int))] ⟨rfl, trivial⟩ ?_
  intro Q a hP hF hR hN
  have hS := St.start w0
  refine wp_seq_k fun K1 hK1 => ?_
  refine wp_region_lit ?_
  refine so (wn rfl) (O.alloc rfl rfl hF ze31 rfl hS fun b2 a w hF hS => ?_)
  refine s0 ?_
  refine then_n (hK1 _ _ ?_)
  refine wp_seq_k fun K2 hK2 => ?_
  refine wp_region_lit ?_
  refine sv' hF (wn rfl) rfl rfl (R.move (hF.ev rfl)) fun a hF => ?_
  refine sv' hF (wn rfl) rfl rfl (R.convU Try.underlying3 Try.underlying29 (hF.ev rfl)) fun a hF => ?_
  refine sv' hF (wn rfl) rfl rfl (R.buildArr (l := [_, _, _, _]) Try.underlying31 ze31 sz29 (hF.evp rfl) rfl) fun a hF => ?_
  refine so (wn rfl) (O.storeW sz31 (hF.ev rfl) (hF.ev rfl) (rfl) rfl (by simp [Value.oneCell']) hS .h (rfl) fun w hS => ?_)
  refine s0 ?_
  refine then_n (hK2 _ _ ?_)
  refine wp_ret (hR _ _ _ _ _ hF (run_results Try.results47 (.cw hF rfl agg31 hS .h sz31 (rfl) (.nil))) ?_)
  exact ⟨_, [], rfl, ⟨congrArg (fun l : List Value => Value.agg l.toArray) (count_wc (by omega)), rfl⟩, hS.none⟩
theorem answer_calls (A : Option Addr) (c k : Nat) (l : List (Nat × Int)) (w0 : World) (hQ : Rd w0 A (l.flatMap repc)) : Ret Try.prog 36 [.slice A l.length c, .int .i64 ((k : Nat) : Int)] w0 [] (fun v s => v = .agg (repc (l.getD k (0, 0))).toArray ∧ s = []) := by
  refine fn_start Try.func36 rfl Try.ntmps36 rfl [(0, .slice A l.length c), (1, .int .i64 ((k : Nat) : Int))] ⟨rfl, rfl, trivial⟩ ?_
  intro Q a hP hF hR hN
  have hS := St.start w0
  refine wp_seq_k fun K1 hK1 => ?_
  refine wp_region_lit ?_
  refine so (wn rfl) (O.alloc rfl rfl hF ze48 rfl hS fun b4 a w hF hS => ?_)
  refine s0 ?_
  refine then_n (hK1 _ _ ?_)
  refine wp_seq_k fun K2 hK2 => ?_
  refine wp_seq_k fun K3 hK3 => ?_
  refine wp_region_lit ?_
  refine sv' hF (wn rfl) rfl rfl (R.move (hF.ev rfl)) fun a hF => ?_
  refine sv' hF (wn rfl) rfl rfl (R.move (hF.ev rfl)) fun a hF => ?_
  refine sv' hF (wn rfl) rfl rfl (R.len Try.underlying35 (hF.ev rfl)) fun a hF => ?_
  refine sv' hF (wn rfl) rfl rfl (R.lss (hF.ev rfl) (hF.ev rfl)) fun a hF => ?_
  refine s0 ?_
  refine then_n (hK3 _ _ ?_)
  refine cD hF rfl (fun c1 => ?_) (fun c1 => ?_)
  ·
    refine wp_seq_k fun K4 hK4 => ?_
    refine wp_region_lit ?_
    refine sv' hF (wn rfl) rfl rfl (R.move (hF.ev rfl)) fun a hF => ?_
    refine sv' hF (wn rfl) rfl rfl (R.move (hF.ev rfl)) fun a hF => ?_
    refine sv' hF (wn rfl) rfl rfl (R.indexO Try.underlying35 sz48 (hF.ev rfl) (Rd.ne hQ (by rw [reps_length]; omega)) (hF.ev rfl) (by omega) (by omega)) fun a hF => ?_
    refine sv' hF (wn rfl) rfl rfl (R.loadAO (cs := repc (l.getD k (0, 0))) agg48 (hF.ev rfl) (hQ.old hS) sz48 rfl (Nat.succ_pos _) (reps_at (k := k) (by omega) (by omega))) fun a hF => ?_
    refine so (wn rfl) (O.storeW sz48 (hF.ev rfl) (hF.ev rfl) (rfl) rfl (one_repc _) hS .h (rfl) fun w hS => ?_)
    refine s0 ?_
    refine then_n (hK4 _ _ ?_)
    refine wp_ret (then_r (hR _ _ _ _ _ hF (run_results Try.results36 (.cw hF rfl agg48 hS .h sz48 (rfl) (.nil))) ?_))
    exact ⟨_, [], rfl, ⟨rfl, rfl⟩, hS.none⟩
  ·
    refine wp_skip ?_
    refine then_n (hK2 _ _ ?_)
    refine wp_seq_k fun K5 hK5 => ?_
    refine wp_region_lit ?_
    refine sv' hF (wn rfl) rfl rfl (R.buildStr (l := [_, _, _, _, _]) Try.underlying48 ze48 pl48 (hF.evp rfl) rfl) fun a hF => ?_
    refine so (wn rfl) (O.storeW sz48 (hF.ev rfl) (hF.ev rfl) (rfl) rfl (by simp [Value.oneCell']) hS .h (rfl) fun w hS => ?_)
    refine s0 ?_
    refine then_n (hK5 _ _ ?_)
    refine wp_ret (hR _ _ _ _ _ hF (run_results Try.results36 (.cw hF rfl agg48 hS .h sz48 (rfl) (.nil))) ?_)
    exact ⟨_, [], rfl, ⟨by rw [List.getD_eq_getElem?_getD, List.getElem?_eq_none (by omega)]; rfl, rfl⟩, hS.none⟩
theorem addr_calls (x : Nat) (w0 : World) : Ret Try.prog 34 [wv x] w0 [] (fun v s => v = .agg (adc (adF x)).toArray ∧ s = []) := by
  refine fn_start Try.func34 rfl Try.ntmps34 rfl [(0, wv x)] ⟨rfl, trivial⟩ ?_
  intro Q a hP hF hR hN
  have hS := St.start w0
  refine wp_seq_k fun K1 hK1 => ?_
  refine wp_region_lit ?_
  refine so (wn rfl) (O.box rfl rfl hF (hF.ev rfl) rfl hS fun b1 a w hF hS => ?_)
  refine so (wn rfl) (O.alloc rfl rfl hF (ze28b (adF x)) rfl hS fun b2 a w hF hS => ?_)
  refine s0 ?_
  refine then_n (hK1 _ _ ?_)
  refine wp_seq_k fun K2 hK2 => ?_
  refine wp_region_lit ?_
  refine so (wn rfl) (O.alloc rfl rfl hF (ze28b (adF x)) rfl hS fun b3 a w hF hS => ?_)
  refine s0 ?_
  refine then_n (hK2 _ _ ?_)
  refine wp_seq_k fun K3 hK3 => ?_
  refine wp_region_lit ?_
  refine sv' hF (wn rfl) rfl rfl (R.loadW agg31 (hF.ev rfl) hS (.t (.t .h)) sz31 (rfl)) fun a hF => ?_
  refine so (wn rfl) (O.call rfl rfl hF ent40 (hF.evs rfl) hS (dig_calls x w) fun v s7 a w hR hF hS => ?_)
  obtain ⟨b7, rfl, rfl⟩ := hR
  refine sv' hF (wn rfl) rfl rfl (R.assign (hF.ev rfl)) fun a hF => ?_
  refine s0 ?_
  refine then_n (hK3 _ _ ?_)
  refine wp_seq_k fun K4 hK4 => ?_
  refine wp_seq_k fun K5 hK5 => ?_
  refine wp_region_lit ?_
  refine sv' hF (wn rfl) rfl rfl (R.assign (hF.ev rfl)) fun a hF => ?_
  refine s0 ?_
  refine then_n (hK5 _ _ ?_)
  refine wp_block ?_
  refine wp_loop_N (fun g a w => ∃ (i : Nat), 20 - i = g ∧ Fr 21 [(2, .pointer (some ⟨b2, 0, none⟩)), (3, .pointer (some ⟨b3, 0, none⟩)), (4, .slice (some ⟨b7, 0, none⟩) 32 32), (5, .int .i64 ((i : Nat) : Int))] a ∧ St w0 [] [[(b7, Cel (ints (toB 32 x)) 3)], [(b3, Cel (mkU 20 (adF x) i) 28)], [(b2, Cel (mkU 20 (adF x) 0) 28)]] w ∧ (i ≤ 20)) (20 - 0) ?_ ?_
  · exact ⟨0, rfl, hF.sub ⟨rfl, rfl, rfl, rfl, trivial⟩, hS.sel [0, 1, 2] rfl rfl, by omega⟩
  · rintro KL1 g a w ⟨i, hg1, hF, hS, hi⟩ hKL1
    refine wp_seq_k fun K6 hK6 => ?_
    refine wp_seq_k fun K7 hK7 => ?_
    refine wp_region_lit ?_
    refine sv' hF (wn rfl) rfl rfl (R.move (hF.ev rfl)) fun a hF => ?_
    refine sv' hF (wn rfl) rfl rfl (R.lss (hF.ev rfl) (hF.ev rfl)) fun a hF => ?_
    refine s0 ?_
    refine then_n (hK7 _ _ ?_)
    refine cD hF rfl (fun c1 => ?_) (fun c1 => ?_)
    ·
      refine wp_skip ?_
      refine then_n (hK6 _ _ ?_)
      refine wp_seq_k fun K8 hK8 => ?_
      refine wp_block ?_
      refine wp_region_lit ?_
      refine sv' hF (wn rfl) rfl rfl (R.move (hF.ev rfl)) fun a hF => ?_
      refine sv' hF (wn rfl) rfl rfl (R.move (hF.ev rfl)) fun a hF => ?_
      refine sv' hF (wn rfl) rfl rfl (R.move (hF.ev rfl)) fun a hF => ?_
      refine sv' hF (wn rfl) rfl rfl (R.addI (hF.ev rfl) (hF.ev rfl) (by omega)) fun a hF => ?_
      refine sv' hF (wn rfl) rfl rfl (R.indexS Try.underlying61 sz3 (hF.ev rfl) (hF.ev rfl) (by omega) (by omega)) fun a hF => ?_
      refine sv' hF (wn rfl) rfl rfl (R.load one3 (hF.ev rfl) hS .h (who_at x i (by omega) (by omega))) fun a hF => ?_
      refine sv' hF (wn rfl) rfl rfl (R.convB Try.underlying3 Try.underlying5 (hF.ev rfl)) fun a hF => ?_
      refine sv' hF (wn rfl) rfl rfl (R.indexA Try.underlying28 sz5 (hF.ev rfl) (hF.ev rfl) (by omega) (by omega)) fun a hF => ?_
      refine so (wn rfl) (O.store sz5 (hF.ev rfl) (hF.ev rfl) rfl rfl hS (.t .h) (mkU_at 20 (adF x) i _ _ (congrArg (fun z : Nat => Value.int .u8 (z : Int)) (Nat.mod_eq_of_lt (Nat.mod_lt _ (by decide)))) (by omega)) (by rw [length_mkU]; omega) fun w hS => ?_)
      refine s0 ?_
      refine blk_n ?_
      refine then_n (hK8 _ _ ?_)
      refine wp_region_lit ?_
      refine sv' hF (wn rfl) rfl rfl (R.move (hF.ev rfl)) fun a hF => ?_
      refine sv' hF (wn rfl) rfl rfl (R.addI (hF.ev rfl) (hF.ev rfl) (by omega)) fun a hF => ?_
      refine sv' hF (wn rfl) rfl rfl (R.assign (hF.ev rfl)) fun a hF => ?_
      refine s0 ?_
      refine then_n (hKL1 (20 - (i + 1)) _ _ ?_ ?_)
      · omega
      · exact ⟨i + 1, rfl, hF.sub ⟨rfl, rfl, rfl, (congrArg (fun z => some (Value.int .i64 z)) (by omega)), trivial⟩, hS.sel [0, 1, 2] rfl rfl, by omega⟩
    ·
      obtain rfl : i = 20 := by omega
      rw [mkU_20] at hS
      refine wp_exit (then_x (then_x (blk_hit ?_)))
      refine then_n (hK4 _ _ ?_)
      refine wp_seq_k fun K9 hK9 => ?_
      refine wp_region_lit ?_
      refine sv' hF (wn rfl) rfl rfl (R.loadW agg28 (hF.ev rfl) hS (.t .h) sz28 (rfl)) fun a hF => ?_
      refine so (wn rfl) (O.storeW sz28 (hF.ev rfl) (hF.ev rfl) (rfl) rfl (one_adc _) hS (.t (.t .h)) (rfl) fun w hS => ?_)
      refine s0 ?_
      refine then_n (hK9 _ _ ?_)
      refine wp_ret (hR _ _ _ _ _ hF (run_results Try.results34 (.cw hF rfl agg28 hS (.t (.t .h)) sz28 (rfl) (.nil))) ?_)
      exact ⟨_, [], rfl, ⟨rfl, rfl⟩, hS.none⟩
theorem wideAd_calls (f : Nat → Nat) (w0 : World) (hf : ∀ i, f i < 256) : Ret Try.prog 48 [.agg (adc f).toArray] w0 [] (fun v s => v = wv (adN f) ∧ s = []) := by
  refine fn_start Try.func48 rfl Try.ntmps48 rfl [(0, .agg (adc f).toArray)] ⟨rfl, trivial⟩ ?_
  intro Q a hP hF hR hN
  have hS := St.start w0
  refine wp_seq_k fun K1 hK1 => ?_
  refine wp_region_lit ?_
  refine so (wn rfl) (O.box rfl rfl hF (hF.ev rfl) rfl hS fun b1 a w hF hS => ?_)
  refine so (wn rfl) (O.alloc rfl rfl hF ze31 rfl hS fun b2 a w hF hS => ?_)
  refine s0 ?_
  refine then_n (hK1 _ _ ?_)
  refine wp_seq_k fun K2 hK2 => ?_
  refine wp_region_lit ?_
  refine so (wn rfl) (O.makeSlice rfl rfl hF Try.underlying61 inf3 rfl rfl (hF.ev rfl) (hF.ev rfl) (by omega) (by omega) (by omega) (by omega) hS fun b5 a w hF hS => ?_)
  rw [show zeros [Value.int .i64 0] (Int.toNat 20) = mki 20 f 0 from mki_0 20 _] at hS
  refine sv' hF (wn rfl) rfl rfl (R.assign (hF.ev rfl)) fun a hF => ?_
  refine s0 ?_
  refine then_n (hK2 _ _ ?_)
  refine wp_seq_k fun K3 hK3 => ?_
  refine wp_seq_k fun K4 hK4 => ?_
  refine wp_region_lit ?_
  refine sv' hF (wn rfl) rfl rfl (R.assign (hF.ev rfl)) fun a hF => ?_
  refine s0 ?_
  refine then_n (hK4 _ _ ?_)
  refine wp_block ?_
  refine wp_loop_N (fun g a w => ∃ (i : Nat), 20 - i = g ∧ Fr 19 [(1, .pointer (some ⟨b1, 0, none⟩)), (2, .pointer (some ⟨b2, 0, none⟩)), (3, .slice (some ⟨b5, 0, none⟩) 20 20), (4, .int .i64 ((i : Nat) : Int))] a ∧ St w0 [] [[(b5, Cel (mki 20 f i) 3)], [(b2, Cel ([.int .u64 0, .int .u64 0, .int .u64 0, .int .u64 0]) 31)], [(b1, Cel (adc f) 28)]] w ∧ (i ≤ 20)) (20 - 0) ?_ ?_
  · exact ⟨0, rfl, hF.sub ⟨rfl, rfl, rfl, rfl, trivial⟩, hS.sel [0, 1, 2] rfl rfl, by omega⟩
  · rintro KL1 g a w ⟨i, hg1, hF, hS, hi⟩ hKL1
    refine wp_seq_k fun K5 hK5 => ?_
    refine wp_seq_k fun K6 hK6 => ?_
    refine wp_region_lit ?_
    refine sv' hF (wn rfl) rfl rfl (R.move (hF.ev rfl)) fun a hF => ?_
    refine sv' hF (wn rfl) rfl rfl (R.lss (hF.ev rfl) (hF.ev rfl)) fun a hF => ?_
    refine s0 ?_
    refine then_n (hK6 _ _ ?_)
    refine cD hF rfl (fun c1 => ?_) (fun c1 => ?_)
    ·
      refine wp_skip ?_
      refine then_n (hK5 _ _ ?_)
      refine wp_seq_k fun K7 hK7 => ?_
      refine wp_block ?_
      refine wp_region_lit ?_
      refine sv' hF (wn rfl) rfl rfl (R.move (hF.ev rfl)) fun a hF => ?_
      refine sv' hF (wn rfl) rfl rfl (R.move (hF.ev rfl)) fun a hF => ?_
      refine sv' hF (wn rfl) rfl rfl (R.move (hF.ev rfl)) fun a hF => ?_
      refine sv' hF (wn rfl) rfl rfl (R.indexA Try.underlying28 sz5 (hF.ev rfl) (hF.ev rfl) (by omega) (by omega)) fun a hF => ?_
      have hfi := hf i
      refine sv' hF (wn rfl) rfl rfl (R.load one5 (hF.ev rfl) hS (.t (.t .h)) (adc_at (i := i) (by omega) (by omega))) fun a hF => ?_
      refine sv' hF (wn rfl) rfl rfl (R.convI Try.underlying5 Try.underlying3 (hF.ev rfl) (by omega)) fun a hF => ?_
      refine sv' hF (wn rfl) rfl rfl (R.indexS Try.underlying61 sz3 (hF.ev rfl) (hF.ev rfl) (by omega) (by omega)) fun a hF => ?_
      refine so (wn rfl) (O.store sz3 (hF.ev rfl) (hF.ev rfl) rfl rfl hS .h (mki_at 20 f i _ rfl) (by rw [length_mki]; omega) fun w hS => ?_)
      refine s0 ?_
      refine blk_n ?_
      refine then_n (hK7 _ _ ?_)
      refine wp_region_lit ?_
      refine sv' hF (wn rfl) rfl rfl (R.move (hF.ev rfl)) fun a hF => ?_
      refine sv' hF (wn rfl) rfl rfl (R.addI (hF.ev rfl) (hF.ev rfl) (by omega)) fun a hF => ?_
      refine sv' hF (wn rfl) rfl rfl (R.assign (hF.ev rfl)) fun a hF => ?_
      refine s0 ?_
      refine then_n (hKL1 (20 - (i + 1)) _ _ ?_ ?_)
      · omega
      · exact ⟨i + 1, rfl, hF.sub ⟨rfl, rfl, rfl, rfl, trivial⟩, hS.sel [0, 1, 2] rfl rfl, by omega⟩
    ·
      obtain rfl : i = 20 := by omega
      rw [mki_all] at hS
      refine wp_exit (then_x (then_x (blk_hit ?_)))
      refine then_n (hK3 _ _ ?_)
      refine wp_seq_k fun K8 hK8 => ?_
      refine wp_region_lit ?_
      refine sv' hF (wn rfl) rfl rfl (R.move (hF.ev rfl)) fun a hF => ?_
      refine so (wn rfl) (O.call rfl rfl hF ent29 (hF.evs rfl) hS (number_calls (some ⟨b5, 0, none⟩) 20 ((List.range 20).map f) w (Rd.own0 hS .h) (byt_range hf 20) (by simp)) fun v s18 a w hR hF hS => ?_)
      obtain ⟨rfl, rfl⟩ := hR
      refine so (wn rfl) (O.storeW sz31 (hF.ev rfl) (hF.ev rfl) (rfl) rfl (by simp [Value.oneCell']) hS (.t (.t .h)) (rfl) fun w hS => ?_)
      refine s0 ?_
      refine then_n (hK8 _ _ ?_)
      refine wp_ret (hR _ _ _ _ _ hF (run_results Try.results48 (.cw hF rfl agg31 hS (.t (.t .h)) sz31 (rfl) (.nil))) ?_)
      exact ⟨_, [], rfl, ⟨rfl, rfl⟩, hS.none⟩
end Go.Proofs.Ytlapmbkfmbkdoaa
end
