/- The calls of the reference's Parse. -/
import Derived.Test.YthgecfjpacebeaaCb
namespace Go.Proofs.Ythgecfjpacebeaa
open Go Go.Fw Go.RowKit
attribute [local irreducible] Go.Oper.wp Go.Code.wp Go.wpList Go.Fw.WL Go.Calls
theorem num_lt_all {xs : List Nat} (h : allD xs = true) : num xs < 10 ^ xs.length := by
  have := num_lt h xs.length (Nat.le_refl _)
  rwa [List.take_length] at this

theorem bad_ref {xs : List Nat} {m : Nat} (hl : xs.length = m) (h : m = 0 ∨ 78 < m ∨ (xs.getD 0 0 = 48 ∧ 1 < m)) : prs xs = none := by
  by_cases h0 : xs.getD 0 0 = 48 ∧ ¬ xs.length = 1
  · exact prs_bad0 (.inr h0)
  · rcases h with h | h | h
    · exact prs_bad0 (.inl (by omega))
    · exact prs_long (by omega) (fun e => h0 ⟨e, by omega⟩)
    · exact absurd ⟨h.1, by omega⟩ h0

theorem rparse_calls (s : ByteArray) (w0 : World) : Ret Try.prog 48 [.string s] w0 [] (fun v q => v = prsW (bys s) ∧ q = []) := by
  refine fn_start Try.func48 rfl Try.ntmps48 rfl [(0, .string s)] ⟨rfl, trivial⟩ ?_
  intro Q a hP hF hR hN
  have hS := St.start w0
  have hlen := length_bys s
  refine wp_seq_k fun K1 hK1 => ?_
  refine wp_region_lit ?_
  refine so (wn rfl) (O.alloc rfl rfl hF ze29 rfl hS fun b2 a w hF hS => ?_)
  refine sv' hF (wn rfl) rfl rfl (R.assign (hF.ev rfl)) fun a hF => ?_
  refine s0 ?_
  refine then_n (hK1 _ _ ?_)
  refine wp_seq_k fun K2 hK2 => ?_
  refine wp_seq_k fun K3 hK3 => ?_
  have hK3' : ∀ a w, (Fr 66 [(0, .string s), (2, .pointer (some ⟨b2, 0, none⟩)), (26, .bool (decide (s.size = 0 ∨ 78 < s.size ∨ ((bys s).getD 0 0 = 48 ∧ 1 < s.size))))] a ∧ St w0 [] [[(b2, Cel (wc 0) 29)]] w) → K3 a w := by
    rintro a w ⟨hF, hS⟩
    refine hK3 _ _ ?_
    refine cD hF rfl (fun hz => ?_) (fun hz => ?_)
    ·
      have hpn : prs (bys s) = none := bad_ref hlen hz
      refine wp_seq_k fun K4 hK4 => ?_
      refine wp_region_lit ?_
      refine sv' hF (wn rfl) rfl rfl (R.buildArr (l := [_, _, _, _]) Try.underlying29 ze29 sz27 (hF.evp rfl) rfl) fun a hF => ?_
      refine so (wn rfl) (O.storeW sz29 (hF.ev rfl) (hF.ev rfl) (rfl) rfl (by simp [Value.oneCell']) hS .h (rfl) fun w hS => ?_)
      refine sv' hF (wn rfl) rfl rfl (R.assign (hF.ev rfl)) fun a hF => ?_
      refine s0 ?_
      refine then_n (hK4 _ _ ?_)
      refine wp_ret (then_r (hR _ _ _ _ _ hF (run_results Try.results48 (.cw hF rfl agg29 hS .h sz29 (rfl) (.t hF rfl (.nil)))) ?_))
      exact ⟨_, [], rfl, ⟨by rw [prsW, hpn]; rfl, rfl⟩, hS.none⟩
    ·
      have hnz := hz
      refine wp_skip ?_
      refine then_n (hK2 _ _ ?_)
      refine wp_seq_k fun K5 hK5 => ?_
      have hS := hS.cons0
      refine wp_region_lit ?_
      refine sv' hF (wn rfl) rfl rfl (R.assign (hF.ev rfl)) fun a hF => ?_
      refine s0 ?_
      refine then_n (hK5 _ _ ?_)
      refine wp_seq_k fun K6 hK6 => ?_
      refine wp_region_lit ?_
      refine so (wn rfl) (O.buildSlice (l := [_, _, _, _]) rfl rfl hF Try.underlying64 inf3 rfl rfl (hF.evp rfl) (by decide) rfl hS fun b28 a w hF hS => ?_)
      refine sv' hF (wn rfl) rfl rfl (R.assign (hF.ev rfl)) fun a hF => ?_
      refine s0 ?_
      refine then_n (hK6 _ _ ?_)
      refine wp_seq_k fun K7 hK7 => ?_
      refine wp_seq_k fun K8 hK8 => ?_
      refine wp_region_lit ?_
      refine sv' hF (wn rfl) rfl rfl (R.assign (hF.ev rfl)) fun a hF => ?_
      refine s0 ?_
      refine then_n (hK8 _ _ ?_)
      refine wp_block ?_
      refine wp_loop_N (fun g a w => ∃ (i : Nat) (A : Option Addr) (e : Nat) (z : Seg), s.size - i = g ∧ Fr 66 [(0, .string s), (2, .pointer (some ⟨b2, 0, none⟩)), (4, .slice A (bl (num ((bys s).take i))).length e), (5, .slice (some ⟨b28, 0, none⟩) 4 4), (6, .int .i64 ((i : Nat) : Int))] a ∧ St w0 [] [z, [(b28, Cel [.int .i64 0, .int .i64 1, .int .i64 0, .int .i64 1] 3)], [(b2, Cel (wc 0) 29)]] w ∧ (i ≤ s.size) ∧ (allD ((bys s).take i) = true) ∧ (OwnS z A (bl (num ((bys s).take i))).length e (ints (bl (num ((bys s).take i)))) 3 1)) (s.size - 0) ?_ ?_
      · exact ⟨0, none, 0, [], rfl, hF.sub ⟨rfl, rfl, (by simp only [List.take_zero, num, List.foldl_nil, bl_0]; rfl), rfl, rfl, trivial⟩, hS.sel [1, 0, 2] rfl rfl, by omega, rfl, by simp only [List.take_zero, num, List.foldl_nil, bl_0]; exact OwnS.nil 3 1⟩
      · rintro KL1 g a w ⟨i, A, e, z, hg1, hF, hS, hi, hal, hO⟩ hKL1
        have hnl := num_lt_all hal; have hfb := few_bits hnl (by rw [List.length_take]; omega)
        refine wp_seq_k fun K9 hK9 => ?_
        refine wp_seq_k fun K10 hK10 => ?_
        refine wp_region_lit ?_
        refine sv' hF (wn rfl) rfl rfl (R.move (hF.ev rfl)) fun a hF => ?_
        refine sv' hF (wn rfl) rfl rfl (R.move (hF.ev rfl)) fun a hF => ?_
        refine sv' hF (wn rfl) rfl rfl (R.lenS Try.underlying9 (hF.ev rfl)) fun a hF => ?_
        refine sv' hF (wn rfl) rfl rfl (R.lss (hF.ev rfl) (hF.ev rfl)) fun a hF => ?_
        refine s0 ?_
        refine then_n (hK10 _ _ ?_)
        refine cD hF rfl (fun c2 => ?_) (fun c2 => ?_)
        ·
          refine wp_skip ?_
          refine then_n (hK9 _ _ ?_)
          refine wp_seq_k fun K11 hK11 => ?_
          refine wp_block ?_
          refine wp_seq_k fun K12 hK12 => ?_
          refine wp_seq_k fun K13 hK13 => ?_
          have hK13' : ∀ a w, (Fr 66 [(0, .string s), (2, .pointer (some ⟨b2, 0, none⟩)), (4, .slice A (bl (num ((bys s).take i))).length e), (5, .slice (some ⟨b28, 0, none⟩) 4 4), (6, .int .i64 ((i : Nat) : Int)), (44, .bool (decide (((bys s).getD i 0) < 48 ∨ 57 < ((bys s).getD i 0))))] a ∧ St w0 [] [z, [(b28, Cel [.int .i64 0, .int .i64 1, .int .i64 0, .int .i64 1] 3)], [(b2, Cel (wc 0) 29)]] w) → K13 a w := by
            rintro a w ⟨hF, hS⟩
            refine hK13 _ _ ?_
            refine cD hF rfl (fun c3 => ?_) (fun c3 => ?_)
            ·
              have hpn := prs_badD (allD_bad (bys s) i (by omega) c3)
              refine wp_seq_k fun K14 hK14 => ?_
              refine wp_region_lit ?_
              refine sv' hF (wn rfl) rfl rfl (R.buildArr (l := [_, _, _, _]) Try.underlying29 ze29 sz27 (hF.evp rfl) rfl) fun a hF => ?_
              refine so (wn rfl) (O.storeW sz29 (hF.ev rfl) (hF.ev rfl) (rfl) rfl (by simp [Value.oneCell']) hS (.t (.t .h)) (rfl) fun w hS => ?_)
              refine sv' hF (wn rfl) rfl rfl (R.assign (hF.ev rfl)) fun a hF => ?_
              refine s0 ?_
              refine then_n (hK14 _ _ ?_)
              refine wp_ret (then_r (blk_r (then_r (then_r (blk_r (then_r (hR _ _ _ _ _ hF (run_results Try.results48 (.cw hF rfl agg29 hS (.t (.t .h)) sz29 (rfl) (.t hF rfl (.nil)))) ?_)))))))
              exact ⟨_, [], rfl, ⟨by rw [prsW, hpn]; rfl, rfl⟩, hS.none⟩
            ·
              have hnj := num_take (bys s) i (by omega)
              have hbb := byt_bys s
              have hnl2 : num ((bys s).take i) < 10 ^ i := by (rw [List.length_take, hlen, Nat.min_eq_left hi] at hnl; exact hnl)
              refine wp_skip ?_
              refine then_n (hK12 _ _ ?_)
              refine wp_drawS hS [(0, 0), (1, 0), (3, 0), (4, 0), (5, 0), (6, 0), (7, 0), (2, 2), (8, 2), (9, 2), (10, 2), (11, 0)] mix (by kernel_rfl) (hP.then.block.then.then.block) fun w hS => ?_
              have hD := hS
              refine dq hF rfl (wn rfl) rfl rfl (fun w => R.move (hF.ev rfl)) fun a hF => ?_
              refine dq hF rfl (wn rfl) rfl rfl (fun w => R.move (hF.ev rfl)) fun a hF => ?_
              refine dq hF rfl (wn rfl) rfl rfl (fun w => R.move (hF.ev rfl)) fun a hF => ?_
              refine dq hF rfl (wn rfl) rfl rfl (fun w => R.move (hF.ev rfl)) fun a hF => ?_
              refine dq hF rfl (wn rfl) rfl rfl (fun w => R.as (u := .int .u8 ((((bys s).getD i 0) : Nat) : Int)) (R.chr Try.underlying9 (hF.ev rfl) (hF.ev rfl) (by omega) (by omega)) (rfl)) fun a hF => ?_
              refine dq hF rfl (wn rfl) rfl rfl (fun w => R.as (u := .int .u8 ((((bys s).getD i 0) - 48 : Nat) : Int)) (R.sub (k := .u8) (p := ((((bys s).getD i 0) : Nat) : Int)) (q := 48) (hF.ev rfl) (hF.ev rfl)) (congrArg (fun z : Int => Value.int .u8 z) (by rw [IntKind.wrap_u8']; omega))) fun a hF => ?_
              refine dq hF rfl (wn rfl) rfl rfl (fun w => R.as (u := .int .u64 ((((bys s).getD i 0) - 48 : Nat) : Int)) (R.convU Try.underlying5 Try.underlying27 (hF.ev rfl)) (congrArg (fun z : Nat => Value.int .u64 (z : Int)) (by omega))) fun a hF => ?_
              refine dl rfl (wn rfl) (O.call rfl rfl hF ent99 (hF.evs rfl) hS (times_ten A e (num ((bys s).take i)) b28 w (hO.rd hS .h) (Rd.own0 hS (.t .h)) hfb) fun v s48 a w hR hF hS => ⟨fun hD => hS.tail, ?_⟩)
              obtain ⟨A48, c48, rfl, hO48⟩ := hR
              have hD := hS.tail
              refine dl rfl (wn rfl) (O.call rfl rfl hF ent59 (hF.evs rfl) hS (rof_calls (((bys s).getD i 0) - 48) _ (by omega)) fun v s54 a w hR hF hS => ⟨fun hD => hS.tail.tail, ?_⟩)
              obtain ⟨rfl, rfl⟩ := hR
              have hD := hS.tail.tail
              refine dl rfl (wn rfl) (O.call rfl rfl hF ent75 (hF.evs rfl) hS (digits_calls (((bys s).getD i 0) - 48) w (by omega)) fun v s55 a w hR hF hS => ⟨fun hD => hS.tail.tail.tail, ?_⟩)
              obtain ⟨A55, c55, rfl, hO55⟩ := hR
              have hD := hS.tail.tail.tail
              refine dl rfl (wn rfl) (O.call rfl rfl hF ent74 (hF.evs rfl) hS (plus_calls A48 A55 c48 c55 (num ((bys s).take i) * 10) (((bys s).getD i 0) - 48) w (hO48.rd hS (.t (.t .h))) (hO55.rd hS .h) (Nat.le_trans (few_bits (i := i + 1) (by rw [Nat.pow_succ]; omega) (by omega)) (by decide)) (Nat.le_trans (len_bl (by omega)) (by decide))) fun v s56 a w hR hF hS => ⟨fun hD => hS.tail.tail.tail.tail, ?_⟩)
              obtain ⟨A56, c56, rfl, hO56⟩ := hR
              have hD := hS.tail.tail.tail.tail
              refine dq hF rfl (wn rfl) rfl rfl (fun w => R.assign (hF.ev rfl)) fun a hF => ?_
              refine d0 ?_
              refine blk_n ?_
              refine then_n (hK11 _ _ ?_)
              refine wp_region_lit ?_
              refine sv' hF (wn rfl) rfl rfl (R.move (hF.ev rfl)) fun a hF => ?_
              refine sv' hF (wn rfl) rfl rfl (R.addI (hF.ev rfl) (hF.ev rfl) (by omega)) fun a hF => ?_
              refine sv' hF (wn rfl) rfl rfl (R.assign (hF.ev rfl)) fun a hF => ?_
              refine s0 ?_
              refine then_n (hKL1 (s.size - (i + 1)) _ _ ?_ ?_)
              · omega
              · exact ⟨i + 1, A56, c56, s56, rfl, hF.sub ⟨rfl, rfl, (by rw [hnj]; rfl), rfl, rfl, trivial⟩, hS.sel [0, 5, 6] rfl rfl, by omega, allD_take _ i (by omega) hal (by omega), by rw [hnj]; exact hO56⟩
          refine wp_region_lit ?_
          refine sv' hF (wn rfl) rfl rfl (R.move (hF.ev rfl)) fun a hF => ?_
          refine sv' hF (wn rfl) rfl rfl (R.move (hF.ev rfl)) fun a hF => ?_
          refine sv' hF (wn rfl) rfl rfl (R.as (u := .int .u8 ((((bys s).getD i 0) : Nat) : Int)) (R.chr Try.underlying9 (hF.ev rfl) (hF.ev rfl) (by omega) (by omega)) (rfl)) fun a hF => ?_
          refine sv' hF (wn rfl) rfl rfl (R.lss (hF.ev rfl) (hF.ev rfl)) fun a hF => ?_
          refine sv' hF (wn rfl) rfl rfl (R.move (hF.ev rfl)) fun a hF => ?_
          refine hF.splitD (t := 39) rfl (fun h39 hF => ?_) (fun h39 hF => ?_)
          ·
            refine sk hF (ws hF rfl rfl rfl rfl) rfl rfl fun a hF => ?_
            refine sk hF (ws hF rfl rfl rfl rfl) rfl rfl fun a hF => ?_
            refine sk hF (ws hF rfl rfl rfl rfl) rfl rfl fun a hF => ?_
            refine sk hF (ws hF rfl rfl rfl rfl) rfl rfl fun a hF => ?_
            refine sv' hF (wn rfl) rfl rfl (R.pickT (hF.ev rfl) (hF.ev rfl)) fun a hF => ?_
            refine s0 ?_
            exact then_n (hK13' _ _ ⟨hF.sub ⟨rfl, rfl, rfl, rfl, rfl, (congrArg (fun z => some (Value.bool z)) (by first | exact (decide_eq_true (by omega)).symm | exact (decide_eq_false (by omega)).symm | exact decide_eq_decide.2 (by omega))), trivial⟩, hS.sel [0, 1, 2] rfl rfl⟩)
          ·
            refine sv' hF (wy hF rfl rfl rfl) rfl rfl (R.move (hF.ev rfl)) fun a hF => ?_
            refine sv' hF (wy hF rfl rfl rfl) rfl rfl (R.move (hF.ev rfl)) fun a hF => ?_
            refine sv' hF (wy hF rfl rfl rfl) rfl rfl (R.as (u := .int .u8 ((((bys s).getD i 0) : Nat) : Int)) (R.chr Try.underlying9 (hF.ev rfl) (hF.ev rfl) (by omega) (by omega)) (rfl)) fun a hF => ?_
            refine sv' hF (wy hF rfl rfl rfl) rfl rfl (R.gtr (hF.ev rfl) (hF.ev rfl)) fun a hF => ?_
            refine sv' hF (wn rfl) rfl rfl (R.pickF (hF.ev rfl) (hF.ev rfl)) fun a hF => ?_
            refine s0 ?_
            exact then_n (hK13' _ _ ⟨hF.sub ⟨rfl, rfl, rfl, rfl, rfl, (congrArg (fun z => some (Value.bool z)) (by first | exact (decide_eq_true (by omega)).symm | exact (decide_eq_false (by omega)).symm | exact decide_eq_decide.2 (by omega))), trivial⟩, hS.sel [0, 1, 2] rfl rfl⟩)
        ·
          obtain rfl : i = s.size := by omega
          have htk : (bys s).take s.size = bys s := by rw [← hlen, List.take_length]
          rw [htk] at hF hO hal
          refine wp_exit (then_x (then_x (blk_hit ?_)))
          refine then_n (hK7 _ _ ?_)
          refine wp_seq_k fun K15 hK15 => ?_
          refine wp_region_lit ?_
          refine sv' hF (wn rfl) rfl rfl (R.move (hF.ev rfl)) fun a hF => ?_
          refine so (wn rfl) (O.call rfl rfl hF ent101 (hF.evs rfl) hS (number_b A e (num (bys s)) w (hO.rd hS .h) hO.2.1 hO.cap) fun v s59 a w hR hF hS => ?_)
          obtain ⟨rfl, rfl⟩ := hR
          refine sv' hF (wn rfl) rfl rfl (R.move (hF.ev rfl)) fun a hF => ?_
          refine sv' hF (wn rfl) rfl rfl (R.extract (hF.ev rfl) rfl) fun a hF => ?_
          refine sv' hF (wn rfl) rfl rfl (R.extract (hF.ev rfl) rfl) fun a hF => ?_
          refine so (wn rfl) (O.alloc rfl rfl hF ze29 rfl hS fun b7 a w hF hS => ?_)
          refine so (wn rfl) (O.storeW sz29 (hF.ev rfl) (hF.ev rfl) (rfl) rfl (by simp [Value.oneCell']) hS .h (rfl) fun w hS => ?_)
          refine sv' hF (wn rfl) rfl rfl (R.assign (hF.ev rfl)) fun a hF => ?_
          refine s0 ?_
          refine then_n (hK15 _ _ ?_)
          refine wp_seq_k fun K16 hK16 => ?_
          refine wp_seq_k fun K17 hK17 => ?_
          refine wp_region_lit ?_
          refine sv' hF (wn rfl) rfl rfl (R.move (hF.ev rfl)) fun a hF => ?_
          refine sv' hF (wn rfl) rfl rfl ((by first | exact R.notD (hF.ev rfl) | exact R.not (hF.ev rfl))) fun a hF => ?_
          refine s0 ?_
          refine then_n (hK17 _ _ ?_)
          refine cD hF rfl (fun c4 => ?_) (fun c4 => ?_)
          ·
            have hpn := prs_big (Nat.le_of_not_lt c4)
            refine wp_seq_k fun K18 hK18 => ?_
            refine wp_region_lit ?_
            refine sv' hF (wn rfl) rfl rfl (R.buildArr (l := [_, _, _, _]) Try.underlying29 ze29 sz27 (hF.evp rfl) rfl) fun a hF => ?_
            refine so (wn rfl) (O.storeW sz29 (hF.ev rfl) (hF.ev rfl) (rfl) rfl (by simp [Value.oneCell']) hS (.t (.t (.t (.t .h)))) (rfl) fun w hS => ?_)
            refine sv' hF (wn rfl) rfl rfl (R.assign (hF.ev rfl)) fun a hF => ?_
            refine s0 ?_
            refine then_n (hK18 _ _ ?_)
            refine wp_ret (then_r (hR _ _ _ _ _ hF (run_results Try.results48 (.cw hF rfl agg29 hS (.t (.t (.t (.t .h)))) sz29 (rfl) (.t hF rfl (.nil)))) ?_))
            exact ⟨_, [], rfl, ⟨by rw [prsW, hpn]; rfl, rfl⟩, hS.none⟩
          ·
            have hok : num (bys s) < 115792089237316195423570985008687907853269984665640564039457584007913129639936 := Nat.lt_of_not_le fun h => c4 (by omega)
            have hpn := prs_good (by rw [hlen]; omega) hal hok
            rw [if_pos hok] at hS
            refine wp_skip ?_
            refine then_n (hK16 _ _ ?_)
            refine wp_seq_k fun K19 hK19 => ?_
            refine wp_region_lit ?_
            refine sv' hF (wn rfl) rfl rfl (R.loadW agg29 (hF.ev rfl) hS .h sz29 (rfl)) fun a hF => ?_
            refine so (wn rfl) (O.storeW sz29 (hF.ev rfl) (hF.ev rfl) (rfl) rfl (by simp [Value.oneCell']) hS (.t (.t (.t (.t .h)))) (rfl) fun w hS => ?_)
            refine sv' hF (wn rfl) rfl rfl (R.assign (hF.ev rfl)) fun a hF => ?_
            refine s0 ?_
            refine then_n (hK19 _ _ ?_)
            refine wp_ret (hR _ _ _ _ _ hF (run_results Try.results48 (.cw hF rfl agg29 hS (.t (.t (.t (.t .h)))) sz29 (rfl) (.t hF rfl (.nil)))) ?_)
            exact ⟨_, [], rfl, ⟨by rw [prsW, hpn]; rfl, rfl⟩, hS.none⟩
  refine wp_region_lit ?_
  refine sv' hF (wn rfl) rfl rfl (R.move (hF.ev rfl)) fun a hF => ?_
  refine sv' hF (wn rfl) rfl rfl (R.lenS Try.underlying9 (hF.ev rfl)) fun a hF => ?_
  refine sv' hF (wn rfl) rfl rfl (R.eql (hF.ev rfl) (hF.ev rfl)) fun a hF => ?_
  refine sv' hF (wn rfl) rfl rfl (R.move (hF.ev rfl)) fun a hF => ?_
  refine hF.splitD (t := 12) rfl (fun h12 hF => ?_) (fun h12 hF => ?_)
  ·
    refine sk hF (ws hF rfl rfl rfl rfl) rfl rfl fun a hF => ?_
    refine sk hF (ws hF rfl rfl rfl rfl) rfl rfl fun a hF => ?_
    refine sk hF (ws hF rfl rfl rfl rfl) rfl rfl fun a hF => ?_
    refine sv' hF (wn rfl) rfl rfl (R.pickT (hF.ev rfl) (hF.ev rfl)) fun a hF => ?_
    refine sv' hF (wn rfl) rfl rfl (R.move (hF.ev rfl)) fun a hF => ?_
    refine sk hF (ws hF rfl rfl rfl rfl) rfl rfl fun a hF => ?_
    refine sk hF (ws hF rfl rfl rfl rfl) rfl rfl fun a hF => ?_
    refine sk hF (ws hF rfl rfl rfl rfl) rfl rfl fun a hF => ?_
    refine sk hF (ws hF rfl rfl rfl rfl) rfl rfl fun a hF => ?_
    refine sk hF (wu hF rfl rfl rfl) rfl rfl fun a hF => ?_
    refine sk hF (wu hF rfl rfl rfl) rfl rfl fun a hF => ?_
    refine sk hF (wu hF rfl rfl rfl) rfl rfl fun a hF => ?_
    refine sk hF (ws hF rfl rfl rfl rfl) rfl rfl fun a hF => ?_
    refine sv' hF (wn rfl) rfl rfl (R.pickT (hF.ev rfl) (hF.ev rfl)) fun a hF => ?_
    refine s0 ?_
    exact then_n (hK3' _ _ ⟨hF.sub ⟨rfl, rfl, (congrArg (fun z => some (Value.bool z)) (by first | exact (decide_eq_true (by omega)).symm | exact (decide_eq_false (by omega)).symm | exact decide_eq_decide.2 (by omega))), trivial⟩, hS.sel [0] rfl rfl⟩)
  ·
    refine sv' hF (wy hF rfl rfl rfl) rfl rfl (R.move (hF.ev rfl)) fun a hF => ?_
    refine sv' hF (wy hF rfl rfl rfl) rfl rfl (R.lenS Try.underlying9 (hF.ev rfl)) fun a hF => ?_
    refine sv' hF (wy hF rfl rfl rfl) rfl rfl (R.gtr (hF.ev rfl) (hF.ev rfl)) fun a hF => ?_
    refine sv' hF (wn rfl) rfl rfl (R.pickF (hF.ev rfl) (hF.ev rfl)) fun a hF => ?_
    refine sv' hF (wn rfl) rfl rfl (R.move (hF.ev rfl)) fun a hF => ?_
    refine hF.splitD (t := 17) rfl (fun h17 hF => ?_) (fun h17 hF => ?_)
    ·
      refine sk hF (ws hF rfl rfl rfl rfl) rfl rfl fun a hF => ?_
      refine sk hF (ws hF rfl rfl rfl rfl) rfl rfl fun a hF => ?_
      refine sk hF (ws hF rfl rfl rfl rfl) rfl rfl fun a hF => ?_
      refine sk hF (ws hF rfl rfl rfl rfl) rfl rfl fun a hF => ?_
      refine sk hF (wu hF rfl rfl rfl) rfl rfl fun a hF => ?_
      refine sk hF (wu hF rfl rfl rfl) rfl rfl fun a hF => ?_
      refine sk hF (wu hF rfl rfl rfl) rfl rfl fun a hF => ?_
      refine sk hF (ws hF rfl rfl rfl rfl) rfl rfl fun a hF => ?_
      refine sv' hF (wn rfl) rfl rfl (R.pickT (hF.ev rfl) (hF.ev rfl)) fun a hF => ?_
      refine s0 ?_
      exact then_n (hK3' _ _ ⟨hF.sub ⟨rfl, rfl, (congrArg (fun z => some (Value.bool z)) (by first | exact (decide_eq_true (by omega)).symm | exact (decide_eq_false (by omega)).symm | exact decide_eq_decide.2 (by omega))), trivial⟩, hS.sel [0] rfl rfl⟩)
    ·
      refine sv' hF (wy hF rfl rfl rfl) rfl rfl (R.move (hF.ev rfl)) fun a hF => ?_
      refine sv' hF (wy hF rfl rfl rfl) rfl rfl (R.as (u := .int .u8 (((bys s).getD 0 0 : Nat) : Int)) (R.chr Try.underlying9 (hF.ev rfl) (hF.ev rfl) (by omega) (by simp only [Int.toNat_zero]; omega)) (rfl)) fun a hF => ?_
      refine sv' hF (wy hF rfl rfl rfl) rfl rfl (R.eql (p := (((bys s).getD 0 0 : Nat) : Int)) (q := 48) (hF.ev rfl) (hF.ev rfl)) fun a hF => ?_
      refine sv' hF (wy hF rfl rfl rfl) rfl rfl (R.move (hF.ev rfl)) fun a hF => ?_
      refine hF.splitD (t := 21) rfl (fun h21 hF => ?_) (fun h21 hF => ?_)
      ·
        refine sv' hF (wy hF rfl rfl rfl) rfl rfl (R.move (hF.ev rfl)) fun a hF => ?_
        refine sv' hF (wy hF rfl rfl rfl) rfl rfl (R.lenS Try.underlying9 (hF.ev rfl)) fun a hF => ?_
        refine sv' hF (wy hF rfl rfl rfl) rfl rfl (R.gtr (hF.ev rfl) (hF.ev rfl)) fun a hF => ?_
        refine sv' hF (wy hF rfl rfl rfl) rfl rfl (R.pickT (hF.ev rfl) (hF.ev rfl)) fun a hF => ?_
        refine sv' hF (wn rfl) rfl rfl (R.pickF (hF.ev rfl) (hF.ev rfl)) fun a hF => ?_
        refine s0 ?_
        exact then_n (hK3' _ _ ⟨hF.sub ⟨rfl, rfl, (congrArg (fun z => some (Value.bool z)) (by first | exact (decide_eq_true (by omega)).symm | exact (decide_eq_false (by omega)).symm | exact decide_eq_decide.2 (by omega))), trivial⟩, hS.sel [0] rfl rfl⟩)
      ·
        refine sk hF (ws hF rfl rfl rfl rfl) rfl rfl fun a hF => ?_
        refine sk hF (ws hF rfl rfl rfl rfl) rfl rfl fun a hF => ?_
        refine sk hF (ws hF rfl rfl rfl rfl) rfl rfl fun a hF => ?_
        refine sv' hF (wy hF rfl rfl rfl) rfl rfl (R.pickF (hF.ev rfl) (hF.ev rfl)) fun a hF => ?_
        refine sv' hF (wn rfl) rfl rfl (R.pickF (hF.ev rfl) (hF.ev rfl)) fun a hF => ?_
        refine s0 ?_
        exact then_n (hK3' _ _ ⟨hF.sub ⟨rfl, rfl, (congrArg (fun z => some (Value.bool z)) (by first | exact (decide_eq_true (by omega)).symm | exact (decide_eq_false (by omega)).symm | exact decide_eq_decide.2 (by omega))), trivial⟩, hS.sel [0] rfl rfl⟩)

end Go.Proofs.Ythgecfjpacebeaa
