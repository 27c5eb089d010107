/- The table of instructions. -/
import Derived.Test.YtlapmbkfmbkdoaaDr
namespace Go.Proofs.Ytlapmbkfmbkdoaa
open Go Go.Fw Go.RowKit
attribute [local irreducible] Go.Oper.wp Go.Code.wp Go.wpList Go.Fw.WL Go.Calls
def tabR : List (List Value) := [[.string ⟨#[115, 116, 111, 112]⟩, .int .i64 1, .int .i64 0, .int .i64 0, .func (.func 49) #[] #[]],
  [.string ⟨#[100, 111, 110, 101]⟩, .int .i64 1, .int .i64 1, .int .i64 0, .func (.func 50) #[] #[]],
  [.string ⟨#[112, 117, 115, 104]⟩, .int .i64 1, .int .i64 0, .int .i64 1, .func (.func 51) #[] #[]],
  [.string ⟨#[112, 111, 112]⟩, .int .i64 1, .int .i64 1, .int .i64 0, .func (.func 52) #[] #[]],
  [.string ⟨#[100, 117, 112]⟩, .int .i64 1, .int .i64 0, .int .i64 1, .func (.func 53) #[] #[]],
  [.string ⟨#[115, 119, 97, 112]⟩, .int .i64 1, .int .i64 0, .int .i64 0, .func (.func 54) #[] #[]],
  [.string ⟨#[97, 100, 100]⟩, .int .i64 2, .int .i64 2, .int .i64 1, .func (.func 55) #[] #[]],
  [.string ⟨#[115, 117, 98]⟩, .int .i64 2, .int .i64 2, .int .i64 1, .func (.func 56) #[] #[]],
  [.string ⟨#[109, 117, 108]⟩, .int .i64 5, .int .i64 2, .int .i64 1, .func (.func 57) #[] #[]],
  [.string ⟨#[100, 105, 118]⟩, .int .i64 10, .int .i64 2, .int .i64 1, .func (.func 58) #[] #[]],
  [.string ⟨#[109, 111, 100]⟩, .int .i64 10, .int .i64 2, .int .i64 1, .func (.func 59) #[] #[]],
  [.string ⟨#[108, 101, 115, 115]⟩, .int .i64 2, .int .i64 2, .int .i64 1, .func (.func 60) #[] #[]],
  [.string ⟨#[115, 97, 109, 101]⟩, .int .i64 2, .int .i64 2, .int .i64 1, .func (.func 61) #[] #[]],
  [.string ⟨#[110, 111, 116]⟩, .int .i64 2, .int .i64 1, .int .i64 1, .func (.func 62) #[] #[]],
  [.string ⟨#[106, 117, 109, 112]⟩, .int .i64 5, .int .i64 0, .int .i64 0, .func (.func 63) #[] #[]],
  [.string ⟨#[119, 104, 101, 110]⟩, .int .i64 5, .int .i64 1, .int .i64 0, .func (.func 64) #[] #[]],
  [.string ⟨#[97, 114, 103]⟩, .int .i64 2, .int .i64 0, .int .i64 1, .func (.func 65) #[] #[]],
  [.string ⟨#[97, 114, 103, 115]⟩, .int .i64 2, .int .i64 0, .int .i64 1, .func (.func 66) #[] #[]],
  [.string ⟨#[99, 97, 108, 108, 101, 114]⟩, .int .i64 2, .int .i64 0, .int .i64 1, .func (.func 67) #[] #[]],
  [.string ⟨#[115, 101, 108, 102]⟩, .int .i64 2, .int .i64 0, .int .i64 1, .func (.func 68) #[] #[]],
  [.string ⟨#[116, 111, 107, 101, 110]⟩, .int .i64 2, .int .i64 0, .int .i64 1, .func (.func 69) #[] #[]],
  [.string ⟨#[97, 109, 111, 117, 110, 116]⟩, .int .i64 2, .int .i64 0, .int .i64 1, .func (.func 70) #[] #[]],
  [.string ⟨#[116, 105, 109, 101]⟩, .int .i64 2, .int .i64 0, .int .i64 1, .func (.func 71) #[] #[]],
  [.string ⟨#[103, 97, 115]⟩, .int .i64 2, .int .i64 0, .int .i64 1, .func (.func 72) #[] #[]],
  [.string ⟨#[108, 111, 97, 100]⟩, .int .i64 200, .int .i64 1, .int .i64 1, .func (.func 73) #[] #[]],
  [.string ⟨#[115, 97, 118, 101]⟩, .int .i64 200, .int .i64 2, .int .i64 0, .func (.func 74) #[] #[]],
  [.string ⟨#[104, 97, 118, 101]⟩, .int .i64 200, .int .i64 2, .int .i64 1, .func (.func 75) #[] #[]],
  [.string ⟨#[115, 101, 110, 100]⟩, .int .i64 500, .int .i64 3, .int .i64 0, .func (.func 76) #[] #[]]]
def tabL : List Value := tabR.flatten

def rowC (nm : ByteArray) (c : Nat) : List Value := [.string nm, .int .i64 ((priceN c : Nat) : Int), .int .i64 ((takesN c : Nat) : Int), .int .i64 ((laysN c : Nat) : Int), .func (.func (49 + c)) #[] #[]]
theorem row_tab {c : Nat} (h : c < 28) : ∃ nm, tabR[c]? = some (rowC nm c) := by
  have hcases : c = 0 ∨ c = 1 ∨ c = 2 ∨ c = 3 ∨ c = 4 ∨ c = 5 ∨ c = 6 ∨ c = 7 ∨ c = 8 ∨ c = 9 ∨ c = 10 ∨ c = 11 ∨ c = 12 ∨ c = 13 ∨ c = 14 ∨ c = 15 ∨ c = 16 ∨ c = 17 ∨ c = 18 ∨ c = 19 ∨ c = 20 ∨ c = 21 ∨ c = 22 ∨ c = 23 ∨ c = 24 ∨ c = 25 ∨ c = 26 ∨ c = 27 := by omega
  rcases hcases with rfl | rfl | rfl | rfl | rfl | rfl | rfl | rfl | rfl | rfl | rfl | rfl | rfl | rfl | rfl | rfl | rfl | rfl | rfl | rfl | rfl | rfl | rfl | rfl | rfl | rfl | rfl | rfl <;> exact ⟨_, rfl⟩
theorem flat_at {l : List (List Value)} {k m : Nat} {r : List Value} (hl : ∀ x ∈ l, x.length = m) (hk : l[k]? = some r) : ∀ j v, r[j]? = some v → l.flatten[k * m + j]? = some v := by
  induction l generalizing k with
  | nil => simp at hk
  | cons x l ih =>
    have hx := hl x (by simp)
    intro j v hj
    cases k with
    | zero =>
      simp only [List.getElem?_cons_zero, Option.some.injEq] at hk
      subst hk
      rw [List.flatten_cons, Nat.zero_mul, Nat.zero_add, List.getElem?_append_left]
      · exact hj
      · rcases Nat.lt_or_ge j x.length with h | h
        · exact h
        · rw [List.getElem?_eq_none h] at hj; simp at hj
    | succ k =>
      rw [List.flatten_cons, List.getElem?_append_right (by rw [hx, Nat.add_mul]; omega), hx, show (k + 1) * m + j - m = k * m + j by rw [Nat.add_mul]; omega]
      exact ih (fun y hy => hl y (by simp [hy])) (by simpa using hk) j v hj
theorem row_at {c : Nat} (h : c < 28) : ∃ nm, ∀ off, off = c * 5 → ∀ j v, (rowC nm c)[j]? = some v → tabL[off + j]? = some v := by
  obtain ⟨nm, hr⟩ := row_tab h
  refine ⟨nm, fun off ho => ?_⟩
  subst ho
  exact flat_at (by decide +kernel) hr
theorem one_row (nm : ByteArray) (c : Nat) : ∀ v ∈ rowC nm c, v.oneCell' = true := by simp [rowC, Value.oneCell']
theorem one_tab : ∀ v ∈ tabL, v.oneCell' = true := by decide +kernel
theorem entC {c : Nat} (h : c < 28) : ∀ args w, (callFunc (49 + c) args).run Try.prog w = .ok (.enter (49 + c) args) w := by
  have hcases : c = 0 ∨ c = 1 ∨ c = 2 ∨ c = 3 ∨ c = 4 ∨ c = 5 ∨ c = 6 ∨ c = 7 ∨ c = 8 ∨ c = 9 ∨ c = 10 ∨ c = 11 ∨ c = 12 ∨ c = 13 ∨ c = 14 ∨ c = 15 ∨ c = 16 ∨ c = 17 ∨ c = 18 ∨ c = 19 ∨ c = 20 ∨ c = 21 ∨ c = 22 ∨ c = 23 ∨ c = 24 ∨ c = 25 ∨ c = 26 ∨ c = 27 := by omega
  rcases hcases with rfl | rfl | rfl | rfl | rfl | rfl | rfl | rfl | rfl | rfl | rfl | rfl | rfl | rfl | rfl | rfl | rfl | rfl | rfl | rfl | rfl | rfl | rfl | rfl | rfl | rfl | rfl | rfl
  · exact ent49
  · exact ent50
  · exact ent51
  · exact ent52
  · exact ent53
  · exact ent54
  · exact ent55
  · exact ent56
  · exact ent57
  · exact ent58
  · exact ent59
  · exact ent60
  · exact ent61
  · exact ent62
  · exact ent63
  · exact ent64
  · exact ent65
  · exact ent66
  · exact ent67
  · exact ent68
  · exact ent69
  · exact ent70
  · exact ent71
  · exact ent72
  · exact ent73
  · exact ent74
  · exact ent75
  · exact ent76
theorem R.loadAP {P : Program} {w : World} {ρ : Operand → Value} {dst : Option Tmp} {ty : TypeId} {pos : String} {af : Array Edge} {g : Option (Nat × Bool)} {x : Operand} {T : TypeId} {b off m : Nat} {cs xs : List Value} (h : aggT P T = true) (hx : ρ x = .pointer (some ⟨b, off, none⟩)) (hA : Rd w (some ⟨b, 0, none⟩) xs) (hs' : szT P T m) (hm : cs.length = m) (hpos : 0 < cs.length) (hl : ∀ j v, cs[j]? = some v → xs[off + j]? = some v) :
    (execOp ρ ⟨dst, .load T x, ty, pos, af, g⟩).run P w = .ok (.value (.agg cs.toArray)) w := by
  have hB : Rd w (some ⟨b, off, none⟩) cs := fun j v hj => by
    obtain ⟨a, ha, hc⟩ := hA _ _ (hl j v hj)
    simp only [Option.some.injEq] at ha
    subst ha
    exact ⟨_, rfl, by rw [addr_add] at hc ⊢; simpa using hc⟩
  exact R.loadAO (A := some ⟨b, off, none⟩) (k := 0) h hx hB hs' hm hpos (fun j v hj => by rw [Nat.zero_add]; exact hj)
theorem take_small : ∀ c, c < 28 → takesN c ≤ 3 ∧ laysN c ≤ 1 ∧ priceN c ≤ 500 ∧ 1 ≤ priceN c := by decide
theorem take_45 {c : Nat} (h : c = 4 ∨ c = 5) : takesN c = 0 := by rcases h with rfl | rfl <;> rfl
theorem size_28 {xs : List Nat} {p : Nat} (hs : sizeN xs p ≠ 0) : cAt xs p < 28 := by
  revert hs; unfold sizeN
  split
  · intro h; exact absurd rfl h
  · intro _; omega
theorem size_2 {xs : List Nat} {p : Nat} (hs : sizeN xs p ≠ 0) (h : cAt xs p = 4 ∨ cAt xs p = 5) : p + 1 < xs.length := by
  have h1 := (sizeN_le xs p).resolve_left hs
  have : sizeN xs p = 2 := by
    revert hs; unfold sizeN
    repeat' split
    all_goals omega
  omega
theorem spl_top {stk : List Nat} {t : Nat} (ht : t ≤ 3) (hl : t ≤ stk.length) : spl (List.replicate 12 (.int .u64 0)) 0 (((stk.drop (stk.length - t)).flatMap wc).take (min (stk.length - (stk.length - t)) 3 * 4)) = vc (fun i => stk.getD (stk.length - t + i) 0) := by
  have e : min (stk.length - (stk.length - t)) 3 = t := by omega
  have hg : ∀ i, stk.getD (stk.length - t + i) 0 = (stk.drop (stk.length - t)).getD i 0 := fun i => by simp [List.getD_eq_getElem?_getD]
  have hf : (fun i => stk.getD (stk.length - t + i) 0) = fun i => (stk.drop (stk.length - t)).getD i 0 := funext hg
  rw [e, hf]
  have hlen : (stk.drop (stk.length - t)).length = t := by rw [List.length_drop]; omega
  generalize stk.drop (stk.length - t) = l at *
  match l, hlen with
  | [], h => simp at h; subst h; show _ = _; kernel_rfl
  | [a], h => simp at h; subst h; show _ = _; kernel_rfl
  | [a, b], h => simp at h; subst h; show _ = _; kernel_rfl
  | [a, b, c], h => simp at h; subst h; show _ = _; kernel_rfl
  | a :: b :: c :: d :: r, h => simp at h; omega

set_option maxHeartbeats 4000000 in
theorem table_calls  (w0 : World) : Ret Try.prog 37 [] w0 [] (fun v s => v = .agg tabL.toArray ∧ s = []) := by
  refine fn_start Try.func37 rfl Try.ntmps37 rfl [] trivial ?_
  intro Q a hP hF hR hN
  have hS := St.start w0
  refine wp_seq_k fun K1 hK1 => ?_
  refine wp_region_lit ?_
  refine so (wn rfl) (O.alloc rfl rfl hF ze85 rfl hS fun b0 a w hF hS => ?_)
  refine s0 ?_
  refine then_n (hK1 _ _ ?_)
  refine wp_seq_k fun K2 hK2 => ?_
  refine wp_region_lit ?_
  refine sv' hF (wn rfl) rfl rfl (R.buildStr (l := [.string ⟨#[115, 116, 111, 112]⟩, .int .i64 1, .int .i64 0, .int .i64 0, .func (.func 49) #[] #[]]) Try.underlying84 ze84 pl84 (hF.evp rfl) (by kernel_rfl)) fun a hF => ?_
  refine sv' hF (wn rfl) rfl rfl (R.buildStr (l := [.string ⟨#[100, 111, 110, 101]⟩, .int .i64 1, .int .i64 1, .int .i64 0, .func (.func 50) #[] #[]]) Try.underlying84 ze84 pl84 (hF.evp rfl) (by kernel_rfl)) fun a hF => ?_
  refine sv' hF (wn rfl) rfl rfl (R.buildStr (l := [.string ⟨#[112, 117, 115, 104]⟩, .int .i64 1, .int .i64 0, .int .i64 1, .func (.func 51) #[] #[]]) Try.underlying84 ze84 pl84 (hF.evp rfl) (by kernel_rfl)) fun a hF => ?_
  refine sv' hF (wn rfl) rfl rfl (R.buildStr (l := [.string ⟨#[112, 111, 112]⟩, .int .i64 1, .int .i64 1, .int .i64 0, .func (.func 52) #[] #[]]) Try.underlying84 ze84 pl84 (hF.evp rfl) (by kernel_rfl)) fun a hF => ?_
  refine sv' hF (wn rfl) rfl rfl (R.buildStr (l := [.string ⟨#[100, 117, 112]⟩, .int .i64 1, .int .i64 0, .int .i64 1, .func (.func 53) #[] #[]]) Try.underlying84 ze84 pl84 (hF.evp rfl) (by kernel_rfl)) fun a hF => ?_
  refine sv' hF (wn rfl) rfl rfl (R.buildStr (l := [.string ⟨#[115, 119, 97, 112]⟩, .int .i64 1, .int .i64 0, .int .i64 0, .func (.func 54) #[] #[]]) Try.underlying84 ze84 pl84 (hF.evp rfl) (by kernel_rfl)) fun a hF => ?_
  refine sv' hF (wn rfl) rfl rfl (R.buildStr (l := [.string ⟨#[97, 100, 100]⟩, .int .i64 2, .int .i64 2, .int .i64 1, .func (.func 55) #[] #[]]) Try.underlying84 ze84 pl84 (hF.evp rfl) (by kernel_rfl)) fun a hF => ?_
  refine sv' hF (wn rfl) rfl rfl (R.buildStr (l := [.string ⟨#[115, 117, 98]⟩, .int .i64 2, .int .i64 2, .int .i64 1, .func (.func 56) #[] #[]]) Try.underlying84 ze84 pl84 (hF.evp rfl) (by kernel_rfl)) fun a hF => ?_
  refine sv' hF (wn rfl) rfl rfl (R.buildStr (l := [.string ⟨#[109, 117, 108]⟩, .int .i64 5, .int .i64 2, .int .i64 1, .func (.func 57) #[] #[]]) Try.underlying84 ze84 pl84 (hF.evp rfl) (by kernel_rfl)) fun a hF => ?_
  refine sv' hF (wn rfl) rfl rfl (R.buildStr (l := [.string ⟨#[100, 105, 118]⟩, .int .i64 10, .int .i64 2, .int .i64 1, .func (.func 58) #[] #[]]) Try.underlying84 ze84 pl84 (hF.evp rfl) (by kernel_rfl)) fun a hF => ?_
  refine sv' hF (wn rfl) rfl rfl (R.buildStr (l := [.string ⟨#[109, 111, 100]⟩, .int .i64 10, .int .i64 2, .int .i64 1, .func (.func 59) #[] #[]]) Try.underlying84 ze84 pl84 (hF.evp rfl) (by kernel_rfl)) fun a hF => ?_
  refine sv' hF (wn rfl) rfl rfl (R.buildStr (l := [.string ⟨#[108, 101, 115, 115]⟩, .int .i64 2, .int .i64 2, .int .i64 1, .func (.func 60) #[] #[]]) Try.underlying84 ze84 pl84 (hF.evp rfl) (by kernel_rfl)) fun a hF => ?_
  refine sv' hF (wn rfl) rfl rfl (R.buildStr (l := [.string ⟨#[115, 97, 109, 101]⟩, .int .i64 2, .int .i64 2, .int .i64 1, .func (.func 61) #[] #[]]) Try.underlying84 ze84 pl84 (hF.evp rfl) (by kernel_rfl)) fun a hF => ?_
  refine sv' hF (wn rfl) rfl rfl (R.buildStr (l := [.string ⟨#[110, 111, 116]⟩, .int .i64 2, .int .i64 1, .int .i64 1, .func (.func 62) #[] #[]]) Try.underlying84 ze84 pl84 (hF.evp rfl) (by kernel_rfl)) fun a hF => ?_
  refine sv' hF (wn rfl) rfl rfl (R.buildStr (l := [.string ⟨#[106, 117, 109, 112]⟩, .int .i64 5, .int .i64 0, .int .i64 0, .func (.func 63) #[] #[]]) Try.underlying84 ze84 pl84 (hF.evp rfl) (by kernel_rfl)) fun a hF => ?_
  refine sv' hF (wn rfl) rfl rfl (R.buildStr (l := [.string ⟨#[119, 104, 101, 110]⟩, .int .i64 5, .int .i64 1, .int .i64 0, .func (.func 64) #[] #[]]) Try.underlying84 ze84 pl84 (hF.evp rfl) (by kernel_rfl)) fun a hF => ?_
  refine sv' hF (wn rfl) rfl rfl (R.buildStr (l := [.string ⟨#[97, 114, 103]⟩, .int .i64 2, .int .i64 0, .int .i64 1, .func (.func 65) #[] #[]]) Try.underlying84 ze84 pl84 (hF.evp rfl) (by kernel_rfl)) fun a hF => ?_
  refine sv' hF (wn rfl) rfl rfl (R.buildStr (l := [.string ⟨#[97, 114, 103, 115]⟩, .int .i64 2, .int .i64 0, .int .i64 1, .func (.func 66) #[] #[]]) Try.underlying84 ze84 pl84 (hF.evp rfl) (by kernel_rfl)) fun a hF => ?_
  refine sv' hF (wn rfl) rfl rfl (R.buildStr (l := [.string ⟨#[99, 97, 108, 108, 101, 114]⟩, .int .i64 2, .int .i64 0, .int .i64 1, .func (.func 67) #[] #[]]) Try.underlying84 ze84 pl84 (hF.evp rfl) (by kernel_rfl)) fun a hF => ?_
  refine sv' hF (wn rfl) rfl rfl (R.buildStr (l := [.string ⟨#[115, 101, 108, 102]⟩, .int .i64 2, .int .i64 0, .int .i64 1, .func (.func 68) #[] #[]]) Try.underlying84 ze84 pl84 (hF.evp rfl) (by kernel_rfl)) fun a hF => ?_
  refine sv' hF (wn rfl) rfl rfl (R.buildStr (l := [.string ⟨#[116, 111, 107, 101, 110]⟩, .int .i64 2, .int .i64 0, .int .i64 1, .func (.func 69) #[] #[]]) Try.underlying84 ze84 pl84 (hF.evp rfl) (by kernel_rfl)) fun a hF => ?_
  refine sv' hF (wn rfl) rfl rfl (R.buildStr (l := [.string ⟨#[97, 109, 111, 117, 110, 116]⟩, .int .i64 2, .int .i64 0, .int .i64 1, .func (.func 70) #[] #[]]) Try.underlying84 ze84 pl84 (hF.evp rfl) (by kernel_rfl)) fun a hF => ?_
  refine sv' hF (wn rfl) rfl rfl (R.buildStr (l := [.string ⟨#[116, 105, 109, 101]⟩, .int .i64 2, .int .i64 0, .int .i64 1, .func (.func 71) #[] #[]]) Try.underlying84 ze84 pl84 (hF.evp rfl) (by kernel_rfl)) fun a hF => ?_
  refine sv' hF (wn rfl) rfl rfl (R.buildStr (l := [.string ⟨#[103, 97, 115]⟩, .int .i64 2, .int .i64 0, .int .i64 1, .func (.func 72) #[] #[]]) Try.underlying84 ze84 pl84 (hF.evp rfl) (by kernel_rfl)) fun a hF => ?_
  refine sv' hF (wn rfl) rfl rfl (R.buildStr (l := [.string ⟨#[108, 111, 97, 100]⟩, .int .i64 200, .int .i64 1, .int .i64 1, .func (.func 73) #[] #[]]) Try.underlying84 ze84 pl84 (hF.evp rfl) (by kernel_rfl)) fun a hF => ?_
  refine sv' hF (wn rfl) rfl rfl (R.buildStr (l := [.string ⟨#[115, 97, 118, 101]⟩, .int .i64 200, .int .i64 2, .int .i64 0, .func (.func 74) #[] #[]]) Try.underlying84 ze84 pl84 (hF.evp rfl) (by kernel_rfl)) fun a hF => ?_
  refine sv' hF (wn rfl) rfl rfl (R.buildStr (l := [.string ⟨#[104, 97, 118, 101]⟩, .int .i64 200, .int .i64 2, .int .i64 1, .func (.func 75) #[] #[]]) Try.underlying84 ze84 pl84 (hF.evp rfl) (by kernel_rfl)) fun a hF => ?_
  refine sv' hF (wn rfl) rfl rfl (R.buildStr (l := [.string ⟨#[115, 101, 110, 100]⟩, .int .i64 500, .int .i64 3, .int .i64 0, .func (.func 76) #[] #[]]) Try.underlying84 ze84 pl84 (hF.evp rfl) (by kernel_rfl)) fun a hF => ?_
  refine sv' hF (wn rfl) rfl rfl (R.buildArr (l := tabL) Try.underlying85 ze85 sz84 (hF.evp rfl) (by kernel_rfl)) fun a hF => ?_
  refine so (wn rfl) (O.storeW sz85 (hF.ev rfl) (hF.ev rfl) (rfl) rfl (one_tab) hS .h (rfl) fun w hS => ?_)
  refine s0 ?_
  refine then_n (hK2 _ _ ?_)
  refine wp_ret (hR _ _ _ _ _ hF (run_results Try.results37 (.cw hF rfl agg85 hS .h sz85 (rfl) (.nil))) ?_)
  exact ⟨_, [], rfl, ⟨rfl, rfl⟩, hS.none⟩

end Go.Proofs.Ytlapmbkfmbkdoaa
