/- The calls of wide.Parse. -/
import Derived.Test.YthgecfjpacebeaaBu
import Derived.Test.YthgecfjpacebeaaBo
namespace Go.Proofs.Ythgecfjpacebeaa
open Go Go.Fw Go.RowKit
attribute [local irreducible] Go.Oper.wp Go.Code.wp Go.wpList Go.Fw.WL Go.Calls
/-- the number that decimals are -/
def num (xs : List Nat) : Nat := xs.foldl (fun a b => 10 * a + (b - 48)) 0
def isD (b : Nat) : Bool := Nat.ble 48 b && Nat.ble b 57
def allD (xs : List Nat) : Bool := xs.all isD
/-- a text's number, if it is one -/
def prs (xs : List Nat) : Option Nat := if xs.length = 0 ∨ (xs.getD 0 0 = 48 ∧ ¬ xs.length = 1) ∨ allD xs = false ∨ 115792089237316195423570985008687907853269984665640564039457584007913129639936 ≤ num xs then none else some (num xs)
def prsW (xs : List Nat) : Value := .tuple #[wv ((prs xs).getD 0), .int .i64 (if (prs xs).isSome then 0 else 21)]
theorem num_snoc (xs : List Nat) (b : Nat) : num (xs ++ [b]) = 10 * num xs + (b - 48) := by simp [num]
theorem num_append_ge (xs ys : List Nat) : num xs ≤ num (xs ++ ys) := by
  unfold num
  rw [List.foldl_append]
  generalize xs.foldl (fun a b => 10 * a + (b - 48)) 0 = n
  have : ∀ (ys : List Nat) (n m : Nat), n ≤ m → n ≤ ys.foldl (fun a b => 10 * a + (b - 48)) m := by
    intro ys
    induction ys with
    | nil => intro n m h; exact h
    | cons b r ih => intro n m h; exact ih n _ (by show n ≤ 10 * m + (b - 48); omega)
  exact this ys n n (Nat.le_refl _)
theorem num_take_le (xs : List Nat) (k : Nat) : num (xs.take k) ≤ num xs := by
  have := num_append_ge (xs.take k) (xs.drop k)
  rwa [List.take_append_drop] at this
theorem take_succ_getD (xs : List Nat) (k : Nat) (h : k < xs.length) : xs.take (k + 1) = xs.take k ++ [xs.getD k 0] := by
  rw [List.take_succ_eq_append_getElem h, List.getD_eq_getElem?_getD, List.getElem?_eq_getElem h]; rfl
theorem num_take (xs : List Nat) (k : Nat) (h : k < xs.length) : num (xs.take (k + 1)) = num (xs.take k) * 10 + (xs.getD k 0 - 48) := by
  rw [take_succ_getD xs k h, num_snoc, Nat.mul_comm]
theorem allD_take (xs : List Nat) (k : Nat) (h : k < xs.length) (h1 : allD (xs.take k) = true) (h2 : ¬ (xs.getD k 0 < 48 ∨ 57 < xs.getD k 0)) : allD (xs.take (k + 1)) = true := by
  rw [take_succ_getD xs k h]
  unfold allD at *
  rw [List.all_append, h1]
  simp only [List.all_cons, List.all_nil, isD, Bool.and_true, Bool.true_and, Bool.and_eq_true, Nat.ble_eq]
  omega
theorem allD_bad (xs : List Nat) (k : Nat) (h : k < xs.length) (h2 : xs.getD k 0 < 48 ∨ 57 < xs.getD k 0) : allD xs = false := by
  cases hb : allD xs
  · rfl
  · have := List.all_eq_true.1 hb (xs.getD k 0) (by rw [List.getD_eq_getElem?_getD, List.getElem?_eq_getElem h]; exact List.getElem_mem h)
    simp only [isD, Bool.and_eq_true, Nat.ble_eq] at this
    omega
theorem prs_bad0 {xs : List Nat} (h : xs.length = 0 ∨ (xs.getD 0 0 = 48 ∧ ¬ xs.length = 1)) : prs xs = none := by
  unfold prs; rw [if_pos]; rcases h with h | h
  · exact .inl h
  · exact .inr (.inl h)
theorem prs_badD {xs : List Nat} (h : allD xs = false) : prs xs = none := by unfold prs; rw [if_pos (.inr (.inr (.inl h)))]
theorem prs_big {xs : List Nat} (h : 115792089237316195423570985008687907853269984665640564039457584007913129639936 ≤ num xs) : prs xs = none := by unfold prs; rw [if_pos (.inr (.inr (.inr h)))]
theorem prs_good {xs : List Nat} (h0 : ¬ (xs.length = 0 ∨ (xs.getD 0 0 = 48 ∧ ¬ xs.length = 1))) (h1 : allD xs = true) (h2 : num xs < 115792089237316195423570985008687907853269984665640564039457584007913129639936) : prs xs = some (num xs) := by
  unfold prs
  rw [if_neg]
  rintro (h | h | h | h)
  · exact h0 (.inl h)
  · exact h0 (.inr h)
  · rw [h1] at h; simp at h
  · omega
theorem prs_lt {xs : List Nat} {n : Nat} (h : prs xs = some n) : n < 115792089237316195423570985008687907853269984665640564039457584007913129639936 := by
  unfold prs at h
  split at h
  · simp at h
  · rename_i h2; simp only [Option.some.injEq] at h; omega
theorem str_0 (s : ByteArray) : s = ⟨#[]⟩ ↔ s.size = 0 := by
  constructor
  · rintro rfl; rfl
  · intro h; apply bys_inj; have h2 : (bys s).length = 0 := by rw [length_bys]; exact h
    rw [List.eq_nil_of_length_eq_zero h2]; rfl
theorem str_1 (s : ByteArray) (h : (bys s).getD 0 0 = 48) (h0 : ¬ s.size = 0) : s = ⟨#[48]⟩ ↔ s.size = 1 := by
  constructor
  · rintro rfl; rfl
  · intro h1; apply bys_inj; have h2 : (bys s).length = 1 := by rw [length_bys]; exact h1
    obtain ⟨b, e⟩ := List.length_eq_one_iff.1 h2
    rw [e] at h ⊢
    simp at h
    rw [h]; rfl
theorem few_chr {n i : Nat} (hn : n < 115792089237316195423570985008687907853269984665640564039457584007913129639936) (h : 10 ^ i ≤ 10 * n) : i ≤ 78 := by
  refine Nat.le_of_not_lt fun hl => ?_
  have h1 : 10 ^ 79 ≤ 10 ^ i := Nat.pow_le_pow_right (by decide) hl
  have h3 : 10 * 115792089237316195423570985008687907853269984665640564039457584007913129639936 < 10 ^ 79 := by decide
  omega
theorem num_grows {xs : List Nat} {m i : Nat} (_hl : xs.length = m) (h0 : ¬ (m = 0 ∨ (xs.getD 0 0 = 48 ∧ ¬ m = 1))) (hi : i < m ∧ 48 ≤ xs.getD i 0) (hn : num (xs.take (i + 1)) = num (xs.take i) * 10 + (xs.getD i 0 - 48)) (h : i = 0 ∨ m = 1 ∨ 10 ^ i ≤ 10 * num (xs.take i)) : i + 1 = 0 ∨ m = 1 ∨ 10 ^ (i + 1) ≤ 10 * num (xs.take (i + 1)) := by
  by_cases hm : m = 1
  · exact .inr (.inl hm)
  · refine .inr (.inr ?_)
    rcases h with rfl | h | h
    · simp only [Nat.zero_add, Nat.pow_one, List.take_zero] at hn ⊢
      simp only [num, List.foldl_nil, Nat.zero_mul] at hn
      unfold num
      omega
    · exact absurd h hm
    · rw [Nat.pow_succ]; omega

theorem parse_calls (s : ByteArray) (w0 : World) : Ret Try.prog 47 [.string s] w0 [] (fun v q => v = prsW (bys s) ∧ q = []) := by
  refine fn_start Try.func47 rfl Try.ntmps47 rfl [(0, .string s)] ⟨rfl, trivial⟩ ?_
  intro Q a hP hF hR hN
  have hS := St.start w0
  have hlen := length_bys s
  refine wp_seq_k fun K1 hK1 => ?_
  refine wp_region_lit ?_
  refine so (wn rfl) (O.alloc rfl rfl hF ze29 rfl hS fun b2 a w hF hS => ?_)
  refine sv' hF (wn rfl) rfl rfl (R.assign (hF.ev rfl)) fun a hF => ?_
  refine s0 ?_
  refine then_n (hK1 _ _ ?_)
  refine wp_seq_k fun K2 hK2 => ?_
  refine wp_region_lit ?_
  refine so (wn rfl) (O.alloc rfl rfl hF ze29 rfl hS fun b4 a w hF hS => ?_)
  refine s0 ?_
  refine then_n (hK2 _ _ ?_)
  refine wp_seq_k fun K3 hK3 => ?_
  refine wp_seq_k fun K4 hK4 => ?_
  have hK4' : ∀ a w, (Fr 61 [(0, .string s), (2, .pointer (some ⟨b2, 0, none⟩)), (4, .pointer (some ⟨b4, 0, none⟩)), (18, .bool (decide (s.size = 0 ∨ ((bys s).getD 0 0 = 48 ∧ ¬ s.size = 1))))] a ∧ St w0 [] [[(b4, Cel (wc 0) 29)], [(b2, Cel (wc 0) 29)]] w) → K4 a w := by
    rintro a w ⟨hF, hS⟩
    refine hK4 _ _ ?_
    refine cD hF rfl (fun hz => ?_) (fun hz => ?_)
    ·
      have hpn := prs_bad0 (hlen.symm ▸ hz)
      refine wp_seq_k fun K5 hK5 => ?_
      refine wp_region_lit ?_
      refine sv' hF (wn rfl) rfl rfl (R.loadW agg29 (hF.ev rfl) hS .h sz29 (rfl)) fun a hF => ?_
      refine so (wn rfl) (O.storeW sz29 (hF.ev rfl) (hF.ev rfl) (rfl) rfl (by simp [Value.oneCell']) hS (.t .h) (rfl) fun w hS => ?_)
      refine sv' hF (wn rfl) rfl rfl (R.assign (hF.ev rfl)) fun a hF => ?_
      refine s0 ?_
      refine then_n (hK5 _ _ ?_)
      refine wp_ret (then_r (hR _ _ _ _ _ hF (run_results Try.results47 (.cw hF rfl agg29 hS (.t .h) sz29 (rfl) (.t hF rfl (.nil)))) ?_))
      exact ⟨_, [], rfl, ⟨by rw [prsW, hpn]; rfl, rfl⟩, hS.none⟩
    ·
      have hnz := hz
      refine wp_skip ?_
      refine then_n (hK3 _ _ ?_)
      refine wp_seq_k fun K6 hK6 => ?_
      refine wp_seq_k fun K7 hK7 => ?_
      refine wp_region_lit ?_
      refine sv' hF (wn rfl) rfl rfl (R.move (hF.ev rfl)) fun a hF => ?_
      refine sv' hF (wn rfl) rfl rfl (R.lenS Try.underlying9 (hF.ev rfl)) fun a hF => ?_
      refine sv' hF (wn rfl) rfl rfl (R.move (hF.ev rfl)) fun a hF => ?_
      refine s0 ?_
      refine then_n (hK7 _ _ ?_)
      refine wp_block ?_
      refine wp_loop_N (fun g a w => ∃ (i : Nat), s.size - i = g ∧ Fr 61 [(0, .string s), (2, .pointer (some ⟨b2, 0, none⟩)), (4, .pointer (some ⟨b4, 0, none⟩)), (21, .int .i64 (s.size : Int)), (22, .int .i64 (i : Nat))] a ∧ St w0 [] [[(b4, Cel (wc (num ((bys s).take i))) 29)], [(b2, Cel (wc 0) 29)]] w ∧ (i ≤ s.size) ∧ (allD ((bys s).take i) = true) ∧ (num ((bys s).take i) < 115792089237316195423570985008687907853269984665640564039457584007913129639936) ∧ (i = 0 ∨ s.size = 1 ∨ 10 ^ i ≤ 10 * num ((bys s).take i))) (s.size - 0) ?_ ?_
      · exact ⟨0, rfl, hF.sub ⟨rfl, rfl, rfl, rfl, rfl, trivial⟩, hS.sel [0, 1] rfl rfl, by omega, rfl, by show num [] < _; decide, by omega⟩
      · rintro KL1 g a w ⟨i, hg1, hF, hS, hi, hal, hnm, hgr⟩ hKL1
        refine wp_seq_k fun K8 hK8 => ?_
        refine wp_region_lit ?_
        refine sv' hF (wn rfl) rfl rfl (R.lss (hF.ev rfl) (hF.ev rfl)) fun a hF => ?_
        refine s0 ?_
        refine then_n (hK8 _ _ ?_)
        refine wp_seq_k fun K9 hK9 => ?_
        refine cD hF rfl (fun c2 => ?_) (fun c2 => ?_)
        ·
          refine wp_skip ?_
          refine then_n (hK9 _ _ ?_)
          refine wp_seq_k fun K10 hK10 => ?_
          refine wp_block ?_
          refine wp_seq_k fun K11 hK11 => ?_
          refine wp_region_lit ?_
          refine sv' hF (wn rfl) rfl rfl (R.move (hF.ev rfl)) fun a hF => ?_
          refine sv' hF (wn rfl) rfl rfl (R.assign (hF.ev rfl)) fun a hF => ?_
          refine s0 ?_
          refine then_n (hK11 _ _ ?_)
          refine wp_seq_k fun K12 hK12 => ?_
          refine wp_seq_k fun K13 hK13 => ?_
          have hK13' : ∀ a w, (Fr 61 [(0, .string s), (2, .pointer (some ⟨b2, 0, none⟩)), (4, .pointer (some ⟨b4, 0, none⟩)), (21, .int .i64 (s.size : Int)), (22, .int .i64 (i : Nat)), (5, .int .i64 (i : Nat)), (34, .bool (decide (((bys s).getD i 0) < 48 ∨ 57 < ((bys s).getD i 0))))] a ∧ St w0 [] [[(b4, Cel (wc (num ((bys s).take i))) 29)], [(b2, Cel (wc 0) 29)]] w) → K13 a w := by
            rintro a w ⟨hF, hS⟩
            refine hK13 _ _ ?_
            refine cD hF rfl (fun c3 => ?_) (fun c3 => ?_)
            ·
              have hpn := prs_badD (allD_bad (bys s) i (by omega) c3)
              refine wp_seq_k fun K14 hK14 => ?_
              refine wp_region_lit ?_
              refine sv' hF (wn rfl) rfl rfl (R.buildArr (l := [_, _, _, _]) Try.underlying29 ze29 sz27 (hF.evp rfl) rfl) fun a hF => ?_
              refine so (wn rfl) (O.storeW sz29 (hF.ev rfl) (hF.ev rfl) (rfl) rfl (by simp [Value.oneCell']) hS (.t .h) (rfl) fun w hS => ?_)
              refine sv' hF (wn rfl) rfl rfl (R.assign (hF.ev rfl)) fun a hF => ?_
              refine s0 ?_
              refine then_n (hK14 _ _ ?_)
              refine wp_ret (then_r (blk_r (then_r (then_r (blk_r (then_r (hR _ _ _ _ _ hF (run_results Try.results47 (.cw hF rfl agg29 hS (.t .h) sz29 (rfl) (.t hF rfl (.nil)))) ?_)))))))
              exact ⟨_, [], rfl, ⟨by rw [prsW, hpn]; rfl, rfl⟩, hS.none⟩
            ·
              have hnj := num_take (bys s) i (by omega)
              have hbb := byt_bys s
              have hi7 : i < s.size ∧ 48 ≤ ((bys s).getD i 0) := ⟨by omega, by omega⟩
              refine wp_skip ?_
              refine then_n (hK12 _ _ ?_)
              refine wp_seq_k fun K15 hK15 => ?_
              have hK15' : ∀ a w, (∃ (b6 : Nat), Fr 61 [(0, .string s), (2, .pointer (some ⟨b2, 0, none⟩)), (4, .pointer (some ⟨b4, 0, none⟩)), (21, .int .i64 (s.size : Int)), (22, .int .i64 (i : Nat)), (5, .int .i64 (i : Nat)), (6, .pointer (some ⟨b6, 0, none⟩)), (7, .int .i64 (if num ((bys s).take i) * 10 < 115792089237316195423570985008687907853269984665640564039457584007913129639936 then 0 else 22))] a ∧ St w0 [] [[(b6, Cel (wc (if num ((bys s).take i) * 10 < 115792089237316195423570985008687907853269984665640564039457584007913129639936 then num ((bys s).take i) * 10 else 0)) 29)], [(b4, Cel (wc (num ((bys s).take i))) 29)], [(b2, Cel (wc 0) 29)]] w) → K15 a w := by
                rintro a w ⟨b6, hF, hS⟩
                refine hK15 _ _ ?_
                refine wp_seq_k fun K16 hK16 => ?_
                have hK16' : ∀ a w, (Fr 61 [(0, .string s), (2, .pointer (some ⟨b2, 0, none⟩)), (4, .pointer (some ⟨b4, 0, none⟩)), (21, .int .i64 (s.size : Int)), (22, .int .i64 (i : Nat)), (5, .int .i64 (i : Nat)), (6, .pointer (some ⟨b6, 0, none⟩)), (7, .int .i64 (if num ((bys s).take (i + 1)) < 115792089237316195423570985008687907853269984665640564039457584007913129639936 then 0 else 22))] a ∧ St w0 [] [[(b6, Cel (wc (if num ((bys s).take (i + 1)) < 115792089237316195423570985008687907853269984665640564039457584007913129639936 then num ((bys s).take (i + 1)) else 0)) 29)], [(b4, Cel (wc (num ((bys s).take i))) 29)], [(b2, Cel (wc 0) 29)]] w) → K16 a w := by
                  rintro a w ⟨hF, hS⟩
                  refine hK16 _ _ ?_
                  refine wp_seq_k fun K17 hK17 => ?_
                  refine wp_seq_k fun K18 hK18 => ?_
                  refine wp_region_lit ?_
                  refine sv' hF (wn rfl) rfl rfl (R.move (hF.ev rfl)) fun a hF => ?_
                  refine sv' hF (wn rfl) rfl rfl (R.neq (hF.ev rfl) (hF.ev rfl)) fun a hF => ?_
                  refine s0 ?_
                  refine then_n (hK18 _ _ ?_)
                  refine cD hF rfl (fun c5 => ?_) (fun c5 => ?_)
                  ·
                    have hbig : ¬ num ((bys s).take (i + 1)) < 115792089237316195423570985008687907853269984665640564039457584007913129639936 := fun h => by rw [if_pos h] at c5; omega
                    have hpn := prs_big (Nat.le_trans (Nat.le_of_not_lt hbig) (num_take_le (bys s) (i + 1)))
                    refine wp_seq_k fun K19 hK19 => ?_
                    refine wp_region_lit ?_
                    refine sv' hF (wn rfl) rfl rfl (R.buildArr (l := [_, _, _, _]) Try.underlying29 ze29 sz27 (hF.evp rfl) rfl) fun a hF => ?_
                    refine so (wn rfl) (O.storeW sz29 (hF.ev rfl) (hF.ev rfl) (rfl) rfl (by simp [Value.oneCell']) hS (.t (.t .h)) (rfl) fun w hS => ?_)
                    refine sv' hF (wn rfl) rfl rfl (R.assign (hF.ev rfl)) fun a hF => ?_
                    refine s0 ?_
                    refine then_n (hK19 _ _ ?_)
                    refine wp_ret (then_r (blk_r (then_r (then_r (blk_r (then_r (hR _ _ _ _ _ hF (run_results Try.results47 (.cw hF rfl agg29 hS (.t (.t .h)) sz29 (rfl) (.t hF rfl (.nil)))) ?_)))))))
                    exact ⟨_, [], rfl, ⟨by rw [prsW, hpn]; rfl, rfl⟩, hS.none⟩
                  ·
                    have hsm : num ((bys s).take (i + 1)) < 115792089237316195423570985008687907853269984665640564039457584007913129639936 := by (by_cases h : num ((bys s).take (i + 1)) < 115792089237316195423570985008687907853269984665640564039457584007913129639936; exact h; rw [if_neg h] at c5; omega)
                    rw [if_pos hsm] at hS
                    refine wp_skip ?_
                    refine then_n (hK17 _ _ ?_)
                    refine wp_region_lit ?_
                    refine sv' hF (wn rfl) rfl rfl (R.loadW agg29 (hF.ev rfl) hS .h sz29 (rfl)) fun a hF => ?_
                    refine so (wn rfl) (O.storeW sz29 (hF.ev rfl) (hF.ev rfl) (rfl) rfl (by simp [Value.oneCell']) hS (.t .h) (rfl) fun w hS => ?_)
                    refine s0 ?_
                    refine blk_n ?_
                    refine then_n (hK10 _ _ ?_)
                    refine wp_region_lit ?_
                    have hi9 : i + 1 ≤ 9223372036854775807 := by (rcases hgr with h | h | h; omega; omega; have := few_chr hnm h; omega)
                    refine sv' hF (wn rfl) rfl rfl (R.addI (hF.ev rfl) (hF.ev rfl) (by omega)) fun a hF => ?_
                    refine sv' hF (wn rfl) rfl rfl (R.move (hF.ev rfl)) fun a hF => ?_
                    refine s0 ?_
                    refine then_n (hKL1 (s.size - (i + 1)) _ _ ?_ ?_)
                    · omega
                    · exact ⟨i + 1, rfl, hF.sub ⟨rfl, rfl, rfl, rfl, rfl, trivial⟩, hS.sel [1, 2] rfl rfl, by omega, allD_take _ i (by omega) hal (by omega), by omega, num_grows hlen hnz hi7 hnj hgr⟩
                refine wp_seq_k fun K20 hK20 => ?_
                refine wp_region_lit ?_
                refine sv' hF (wn rfl) rfl rfl (R.move (hF.ev rfl)) fun a hF => ?_
                refine sv' hF (wn rfl) rfl rfl (R.eql (hF.ev rfl) (hF.ev rfl)) fun a hF => ?_
                refine s0 ?_
                refine then_n (hK20 _ _ ?_)
                refine cD hF rfl (fun c4 => ?_) (fun c4 => ?_)
                ·
                  have hfit : num ((bys s).take i) * 10 < 115792089237316195423570985008687907853269984665640564039457584007913129639936 := by (by_cases h : num ((bys s).take i) * 10 < 115792089237316195423570985008687907853269984665640564039457584007913129639936; exact h; rw [if_neg h] at c4; omega)
                  rw [if_pos hfit] at hS
                  refine wp_drawS hS [(0, 1), (1, 0), (2, 0), (3, 0), (4, 0), (5, 0), (6, 2), (7, 2), (8, 0), (9, 0), (10, 0), (11, 3), (12, 0)] mix (by kernel_rfl) (hP.then.block.then.then.block.then) fun w hS => ?_
                  have hD := hS
                  refine dr hF rfl (wn rfl) rfl rfl hD (fun w hD => R.loadW agg29 (hF.ev rfl) hD .h sz29 (rfl)) fun a hF => ?_
                  refine dq hF rfl (wn rfl) rfl rfl (fun w => R.move (hF.ev rfl)) fun a hF => ?_
                  refine dq hF rfl (wn rfl) rfl rfl (fun w => R.move (hF.ev rfl)) fun a hF => ?_
                  refine dq hF rfl (wn rfl) rfl rfl (fun w => R.as (u := .int .u8 ((((bys s).getD i 0) : Nat) : Int)) (R.chr Try.underlying9 (hF.ev rfl) (hF.ev rfl) (by omega) (by omega)) (rfl)) fun a hF => ?_
                  refine dq hF rfl (wn rfl) rfl rfl (fun w => R.as (u := .int .u8 ((((bys s).getD i 0) - 48 : Nat) : Int)) (R.sub (k := .u8) (p := ((((bys s).getD i 0) : Nat) : Int)) (q := 48) (hF.ev rfl) (hF.ev rfl)) (congrArg (fun z : Int => Value.int .u8 z) (by rw [IntKind.wrap_u8']; omega))) fun a hF => ?_
                  refine dq hF rfl (wn rfl) rfl rfl (fun w => R.as (u := .int .u64 ((((bys s).getD i 0) - 48 : Nat) : Int)) (R.convU Try.underlying5 Try.underlying27 (hF.ev rfl)) (congrArg (fun z : Nat => Value.int .u64 (z : Int)) (by omega))) fun a hF => ?_
                  refine dl rfl (wn rfl) (O.call rfl rfl hF ent58 (hF.evs rfl) hS (of_calls (((bys s).getD i 0) - 48) _ (by omega)) fun v s51 a w hR hF hS => ⟨fun hD => hS.tail, ?_⟩)
                  obtain ⟨rfl, rfl⟩ := hR
                  have hD := hS.tail
                  refine dl rfl (wn rfl) (O.call rfl rfl hF ent41 (hF.evs rfl) hS (add_calls (num ((bys s).take i) * 10) (((bys s).getD i 0) - 48) _ hfit (by omega)) fun v s52 a w hR hF hS => ⟨fun hD => hS.tail.tail, ?_⟩)
                  obtain ⟨rfl, rfl⟩ := hR
                  have hD := hS.tail.tail
                  refine dq hF rfl (wn rfl) rfl rfl (fun w => R.move (hF.ev rfl)) fun a hF => ?_
                  refine dq hF rfl (wn rfl) rfl rfl (fun w => R.extract (hF.ev rfl) rfl) fun a hF => ?_
                  refine dq hF rfl (wn rfl) rfl rfl (fun w => R.extract (hF.ev rfl) rfl) fun a hF => ?_
                  refine dw rfl (wn rfl) (O.storeW sz29 (hF.ev rfl) (hF.ev rfl) (rfl) rfl (by simp [Value.oneCell']) hS (.t (.t .h)) (rfl) fun w hS => ?_)
                  refine dq hF rfl (wn rfl) rfl rfl (fun w => R.assign (hF.ev rfl)) fun a hF => ?_
                  refine d0 ?_
                  exact then_n (hK16' _ _ ⟨hF.sub ⟨rfl, rfl, rfl, rfl, rfl, rfl, rfl, (by rw [hnj]; rfl), trivial⟩, hS.sel [2, 3, 4] rfl (by rw [hnj]; rfl)⟩)
                ·
                  have hno : ¬ num ((bys s).take i) * 10 < 115792089237316195423570985008687907853269984665640564039457584007913129639936 := fun h => by rw [if_pos h] at c4; omega
                  refine wp_skip ?_
                  exact then_n (hK16' _ _ ⟨hF.sub ⟨rfl, rfl, rfl, rfl, rfl, rfl, rfl, (by rw [if_neg (show ¬ num ((bys s).take i) * 10 < 115792089237316195423570985008687907853269984665640564039457584007913129639936 by omega), if_neg (show ¬ num ((bys s).take (i + 1)) < 115792089237316195423570985008687907853269984665640564039457584007913129639936 by omega)]; rfl), trivial⟩, hS.sel [0, 1, 2] rfl (by rw [if_neg (show ¬ num ((bys s).take i) * 10 < 115792089237316195423570985008687907853269984665640564039457584007913129639936 by omega), if_neg (show ¬ num ((bys s).take (i + 1)) < 115792089237316195423570985008687907853269984665640564039457584007913129639936 by omega)]; rfl)⟩)
              refine wp_drawN hS (hS.sel [0, 1] rfl rfl) [(0, 1), (1, 2), (2, 2), (3, 0), (4, 0), (5, 0), (6, 2), (7, 3), (8, 0)] (.node [(0, 1)] (.node [(1, 2)] (.leaf [(2, 2), (3, 0), (4, 0), (5, 0), (6, 2), (7, 3), (8, 0)]) (.leaf [(6, 2), (2, 2), (3, 0), (4, 0), (5, 0), (7, 3), (8, 0)])) (.leaf [(6, 2), (1, 2), (2, 2), (3, 0), (4, 0), (5, 0), (7, 3), (8, 0)])) mix (by kernel_rfl) (hP.then.block.then.then.block.then) fun w hS hD => ?_
              refine dr hF rfl (wn rfl) rfl rfl hD (fun w hD => R.loadW agg29 (hF.ev rfl) hD .h sz29 (rfl)) fun a hF => ?_
              refine d0 ?_
              refine ⟨?_, ?_⟩
              ·
                refine dl rfl (wn rfl) (O.call rfl rfl hF ent58 (hF.evs rfl) hS (of_calls 10 _ (by decide)) fun v s38 a w hR hF hS => ⟨fun hD => hS.tail, ?_⟩)
                obtain ⟨rfl, rfl⟩ := hR
                have hD := hS.tail
                refine d0 ?_
                refine ⟨?_, ?_⟩
                ·
                  refine dl rfl (wn rfl) (O.call rfl rfl hF ent43 (hF.evs rfl) hS (mul_calls (num ((bys s).take i)) 10 _ hnm (by decide)) fun v s39 a w hR hF hS => ⟨fun hD => hS.tail.tail, ?_⟩)
                  obtain ⟨rfl, rfl⟩ := hR
                  have hD := hS.tail.tail
                  refine dq hF rfl (wn rfl) rfl rfl (fun w => R.move (hF.ev rfl)) fun a hF => ?_
                  refine dq hF rfl (wn rfl) rfl rfl (fun w => R.extract (hF.ev rfl) rfl) fun a hF => ?_
                  refine dq hF rfl (wn rfl) rfl rfl (fun w => R.extract (hF.ev rfl) rfl) fun a hF => ?_
                  refine dl rfl (wn rfl) (O.alloc rfl rfl hF ze29 rfl hS fun b6 a w hF hS => ⟨fun hD => hS.tail.tail.tail, ?_⟩)
                  have hD := hS.tail.tail.tail
                  refine dw rfl (wn rfl) (O.storeW sz29 (hF.ev rfl) (hF.ev rfl) (rfl) rfl (by simp [Value.oneCell']) hS .h (rfl) fun w hS => ?_)
                  refine dq hF rfl (wn rfl) rfl rfl (fun w => R.assign (hF.ev rfl)) fun a hF => ?_
                  refine d0 ?_
                  exact then_n (hK15' _ _ ⟨b6, hF.sub ⟨rfl, rfl, rfl, rfl, rfl, rfl, rfl, rfl, trivial⟩, hS.sel [0, 3, 4] rfl rfl⟩)
                ·
                  refine dl rfl (wn rfl) (O.alloc rfl rfl hF ze29 rfl hS fun b6 a w hF hS => ⟨fun hD => hS.tail.tail, ?_⟩)
                  have hD := hS.tail.tail
                  refine dl rfl (wn rfl) (O.call rfl rfl hF ent43 (hF.evs rfl) hS (mul_calls (num ((bys s).take i)) 10 _ hnm (by decide)) fun v s39 a w hR hF hS => ⟨fun hD => hS.tail.tail.tail, ?_⟩)
                  obtain ⟨rfl, rfl⟩ := hR
                  have hD := hS.tail.tail.tail
                  refine dq hF rfl (wn rfl) rfl rfl (fun w => R.move (hF.ev rfl)) fun a hF => ?_
                  refine dq hF rfl (wn rfl) rfl rfl (fun w => R.extract (hF.ev rfl) rfl) fun a hF => ?_
                  refine dq hF rfl (wn rfl) rfl rfl (fun w => R.extract (hF.ev rfl) rfl) fun a hF => ?_
                  refine dw rfl (wn rfl) (O.storeW sz29 (hF.ev rfl) (hF.ev rfl) (rfl) rfl (by simp [Value.oneCell']) hS (.t .h) (rfl) fun w hS => ?_)
                  refine dq hF rfl (wn rfl) rfl rfl (fun w => R.assign (hF.ev rfl)) fun a hF => ?_
                  refine d0 ?_
                  exact then_n (hK15' _ _ ⟨b6, hF.sub ⟨rfl, rfl, rfl, rfl, rfl, rfl, rfl, rfl, trivial⟩, hS.sel [1, 3, 4] rfl rfl⟩)
              ·
                refine dl rfl (wn rfl) (O.alloc rfl rfl hF ze29 rfl hS fun b6 a w hF hS => ⟨fun hD => hS.tail, ?_⟩)
                have hD := hS.tail
                refine dl rfl (wn rfl) (O.call rfl rfl hF ent58 (hF.evs rfl) hS (of_calls 10 _ (by decide)) fun v s38 a w hR hF hS => ⟨fun hD => hS.tail.tail, ?_⟩)
                obtain ⟨rfl, rfl⟩ := hR
                have hD := hS.tail.tail
                refine dl rfl (wn rfl) (O.call rfl rfl hF ent43 (hF.evs rfl) hS (mul_calls (num ((bys s).take i)) 10 _ hnm (by decide)) fun v s39 a w hR hF hS => ⟨fun hD => hS.tail.tail.tail, ?_⟩)
                obtain ⟨rfl, rfl⟩ := hR
                have hD := hS.tail.tail.tail
                refine dq hF rfl (wn rfl) rfl rfl (fun w => R.move (hF.ev rfl)) fun a hF => ?_
                refine dq hF rfl (wn rfl) rfl rfl (fun w => R.extract (hF.ev rfl) rfl) fun a hF => ?_
                refine dq hF rfl (wn rfl) rfl rfl (fun w => R.extract (hF.ev rfl) rfl) fun a hF => ?_
                refine dw rfl (wn rfl) (O.storeW sz29 (hF.ev rfl) (hF.ev rfl) (rfl) rfl (by simp [Value.oneCell']) hS (.t (.t .h)) (rfl) fun w hS => ?_)
                refine dq hF rfl (wn rfl) rfl rfl (fun w => R.assign (hF.ev rfl)) fun a hF => ?_
                refine d0 ?_
                exact then_n (hK15' _ _ ⟨b6, hF.sub ⟨rfl, rfl, rfl, rfl, rfl, rfl, rfl, rfl, trivial⟩, hS.sel [2, 3, 4] rfl rfl⟩)
          refine wp_region_lit ?_
          refine sv' hF (wn rfl) rfl rfl (R.move (hF.ev rfl)) fun a hF => ?_
          refine sv' hF (wn rfl) rfl rfl (R.move (hF.ev rfl)) fun a hF => ?_
          refine sv' hF (wn rfl) rfl rfl (R.as (u := .int .u8 ((((bys s).getD i 0) : Nat) : Int)) (R.chr Try.underlying9 (hF.ev rfl) (hF.ev rfl) (by omega) (by omega)) (rfl)) fun a hF => ?_
          refine sv' hF (wn rfl) rfl rfl (R.lss (hF.ev rfl) (hF.ev rfl)) fun a hF => ?_
          refine sv' hF (wn rfl) rfl rfl (R.move (hF.ev rfl)) fun a hF => ?_
          refine hF.splitD (t := 29) rfl (fun h29 hF => ?_) (fun h29 hF => ?_)
          ·
            refine sk hF (ws hF rfl rfl rfl rfl) rfl rfl fun a hF => ?_
            refine sk hF (ws hF rfl rfl rfl rfl) rfl rfl fun a hF => ?_
            refine sk hF (ws hF rfl rfl rfl rfl) rfl rfl fun a hF => ?_
            refine sk hF (ws hF rfl rfl rfl rfl) rfl rfl fun a hF => ?_
            refine sv' hF (wn rfl) rfl rfl (R.pickT (hF.ev rfl) (hF.ev rfl)) fun a hF => ?_
            refine s0 ?_
            exact then_n (hK13' _ _ ⟨hF.sub ⟨rfl, rfl, rfl, rfl, rfl, rfl, (congrArg (fun z => some (Value.bool z)) (by first | exact (decide_eq_true (by omega)).symm | exact (decide_eq_false (by omega)).symm | exact decide_eq_decide.2 (by omega))), trivial⟩, hS.sel [0, 1] rfl rfl⟩)
          ·
            refine sv' hF (wy hF rfl rfl rfl) rfl rfl (R.move (hF.ev rfl)) fun a hF => ?_
            refine sv' hF (wy hF rfl rfl rfl) rfl rfl (R.move (hF.ev rfl)) fun a hF => ?_
            refine sv' hF (wy hF rfl rfl rfl) rfl rfl (R.as (u := .int .u8 ((((bys s).getD i 0) : Nat) : Int)) (R.chr Try.underlying9 (hF.ev rfl) (hF.ev rfl) (by omega) (by omega)) (rfl)) fun a hF => ?_
            refine sv' hF (wy hF rfl rfl rfl) rfl rfl (R.gtr (hF.ev rfl) (hF.ev rfl)) fun a hF => ?_
            refine sv' hF (wn rfl) rfl rfl (R.pickF (hF.ev rfl) (hF.ev rfl)) fun a hF => ?_
            refine s0 ?_
            exact then_n (hK13' _ _ ⟨hF.sub ⟨rfl, rfl, rfl, rfl, rfl, rfl, (congrArg (fun z => some (Value.bool z)) (by first | exact (decide_eq_true (by omega)).symm | exact (decide_eq_false (by omega)).symm | exact decide_eq_decide.2 (by omega))), trivial⟩, hS.sel [0, 1] rfl rfl⟩)
        ·
          obtain rfl : i = s.size := by omega
          have htk : (bys s).take s.size = bys s := by rw [← hlen, List.take_length]
          rw [htk] at hS hal hnm
          have hpn := prs_good (hlen.symm ▸ hnz) hal hnm
          refine wp_exit (then_x (then_x (blk_hit ?_)))
          refine then_n (hK6 _ _ ?_)
          refine wp_seq_k fun K21 hK21 => ?_
          refine wp_region_lit ?_
          refine sv' hF (wn rfl) rfl rfl (R.loadW agg29 (hF.ev rfl) hS .h sz29 (rfl)) fun a hF => ?_
          refine so (wn rfl) (O.storeW sz29 (hF.ev rfl) (hF.ev rfl) (rfl) rfl (by simp [Value.oneCell']) hS (.t .h) (rfl) fun w hS => ?_)
          refine sv' hF (wn rfl) rfl rfl (R.assign (hF.ev rfl)) fun a hF => ?_
          refine s0 ?_
          refine then_n (hK21 _ _ ?_)
          refine wp_ret (hR _ _ _ _ _ hF (run_results Try.results47 (.cw hF rfl agg29 hS (.t .h) sz29 (rfl) (.t hF rfl (.nil)))) ?_)
          exact ⟨_, [], rfl, ⟨by rw [prsW, hpn]; rfl, rfl⟩, hS.none⟩
  refine wp_region_lit ?_
  refine sv' hF (wn rfl) rfl rfl (R.move (hF.ev rfl)) fun a hF => ?_
  refine sv' hF (wn rfl) rfl rfl (R.as (u := .bool (decide (s.size = 0))) (R.eqlStr (hF.ev rfl) (hF.ev rfl)) (congrArg Value.bool (decide_eq_decide.2 (str_0 s)))) fun a hF => ?_
  refine sv' hF (wn rfl) rfl rfl (R.move (hF.ev rfl)) fun a hF => ?_
  refine hF.splitD (t := 10) rfl (fun h10 hF => ?_) (fun h10 hF => ?_)
  ·
    refine sk hF (ws hF rfl rfl rfl rfl) rfl rfl fun a hF => ?_
    refine sk hF (ws hF rfl rfl rfl rfl) rfl rfl fun a hF => ?_
    refine sk hF (ws hF rfl rfl rfl rfl) rfl rfl fun a hF => ?_
    refine sk hF (ws hF rfl rfl rfl rfl) rfl rfl fun a hF => ?_
    refine sk hF (wu hF rfl rfl rfl) rfl rfl fun a hF => ?_
    refine sk hF (wu hF rfl rfl rfl) rfl rfl fun a hF => ?_
    refine sk hF (ws hF rfl rfl rfl rfl) rfl rfl fun a hF => ?_
    refine sv' hF (wn rfl) rfl rfl (R.pickT (hF.ev rfl) (hF.ev rfl)) fun a hF => ?_
    refine s0 ?_
    exact then_n (hK4' _ _ ⟨hF.sub ⟨rfl, rfl, rfl, (congrArg (fun z => some (Value.bool z)) (by first | exact (decide_eq_true (by omega)).symm | exact (decide_eq_false (by omega)).symm | exact decide_eq_decide.2 (by omega))), trivial⟩, hS.sel [0, 1] rfl rfl⟩)
  ·
    refine sv' hF (wy hF rfl rfl rfl) rfl rfl (R.move (hF.ev rfl)) fun a hF => ?_
    refine sv' hF (wy hF rfl rfl rfl) rfl rfl (R.as (u := .int .u8 (((bys s).getD 0 0 : Nat) : Int)) (R.chr Try.underlying9 (hF.ev rfl) (hF.ev rfl) (by omega) (by simp only [Int.toNat_zero]; omega)) (rfl)) fun a hF => ?_
    refine sv' hF (wy hF rfl rfl rfl) rfl rfl (R.eql (p := (((bys s).getD 0 0 : Nat) : Int)) (q := 48) (hF.ev rfl) (hF.ev rfl)) fun a hF => ?_
    refine sv' hF (wy hF rfl rfl rfl) rfl rfl (R.move (hF.ev rfl)) fun a hF => ?_
    refine hF.splitD (t := 14) rfl (fun h14 hF => ?_) (fun h14 hF => ?_)
    ·
      refine sv' hF (wy hF rfl rfl rfl) rfl rfl (R.move (hF.ev rfl)) fun a hF => ?_
      refine sv' hF (wy hF rfl rfl rfl) rfl rfl (R.as (u := .bool (decide (¬ s.size = 1))) (R.neqStr (hF.ev rfl) (hF.ev rfl)) (congrArg Value.bool (decide_eq_decide.2 (not_congr (str_1 s (by omega) (by omega)))))) fun a hF => ?_
      refine sv' hF (wy hF rfl rfl rfl) rfl rfl (R.pickT (hF.ev rfl) (hF.ev rfl)) fun a hF => ?_
      refine sv' hF (wn rfl) rfl rfl (R.pickF (hF.ev rfl) (hF.ev rfl)) fun a hF => ?_
      refine s0 ?_
      exact then_n (hK4' _ _ ⟨hF.sub ⟨rfl, rfl, rfl, (congrArg (fun z => some (Value.bool z)) (by first | exact (decide_eq_true (by omega)).symm | exact (decide_eq_false (by omega)).symm | exact decide_eq_decide.2 (by omega))), trivial⟩, hS.sel [0, 1] rfl rfl⟩)
    ·
      refine sk hF (ws hF rfl rfl rfl rfl) rfl rfl fun a hF => ?_
      refine sk hF (ws hF rfl rfl rfl rfl) rfl rfl fun a hF => ?_
      refine sv' hF (wy hF rfl rfl rfl) rfl rfl (R.pickF (hF.ev rfl) (hF.ev rfl)) fun a hF => ?_
      refine sv' hF (wn rfl) rfl rfl (R.pickF (hF.ev rfl) (hF.ev rfl)) fun a hF => ?_
      refine s0 ?_
      exact then_n (hK4' _ _ ⟨hF.sub ⟨rfl, rfl, rfl, (congrArg (fun z => some (Value.bool z)) (by first | exact (decide_eq_true (by omega)).symm | exact (decide_eq_false (by omega)).symm | exact decide_eq_decide.2 (by omega))), trivial⟩, hS.sel [0, 1] rfl rfl⟩)

end Go.Proofs.Ythgecfjpacebeaa
