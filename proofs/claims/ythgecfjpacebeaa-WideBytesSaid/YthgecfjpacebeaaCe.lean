/- The calls of wide.Bytes and of the reference's Bytes. -/
import Derived.Test.YthgecfjpacebeaaCd
namespace Go.Proofs.Ythgecfjpacebeaa
open Go Go.Fw Go.RowKit
attribute [local irreducible] Go.Oper.wp Go.Code.wp Go.wpList Go.Fw.WL Go.Calls
theorem own_byte {s : Seg} {A : Option Addr} {c b : Nat} {m : List Nat} (h : OwnS s A (m.length + 1) c (byts m ++ [.int .u8 ((b : Nat) : Int)]) 5 1) : OwnS s A (m ++ [b]).length c (byts (m ++ [b])) 5 1 := by
  rw [byts_snoc] at h
  rw [List.length_append, List.length_singleton]
  exact h
theorem own_none (b : Nat) : OwnS [(b, Cel (zeros [.int .u8 0] 32) 5)] (some ⟨b, 0, none⟩) (wb 0 0).length 32 (byts (wb 0 0)) 5 1 := OwnS.mk (cells := []) (rest := zeros [.int .u8 0] 32) rfl (by decide) (by rw [List.nil_append, length_zeros]; rfl) (by decide)
theorem own_fullB (b : Nat) (xs : List Nat) (h : xs.length ≤ 9223372036854775807) : OwnS [(b, Cel (byts xs) 5)] (some ⟨b, 0, none⟩) xs.length xs.length (byts xs) 5 1 := by
  have := OwnS.mk (g := b) (cells := byts xs) (rest := []) (n := xs.length) (c := xs.length) (E := 5) (sz := 1) (by rw [length_byts, Nat.mul_one]) (Nat.le_refl _) (by rw [List.append_nil, length_byts, Nat.mul_one]) (by unfold maxLen; omega)
  rw [List.append_nil] at this
  exact this

theorem own_next {s : Seg} {A : Option Addr} {e x k q : Nat} (hk : 0 < k ∧ k ≤ 4) (hq : 0 < q ∧ q ≤ 8) (h : OwnS s A ((4 - k) * 8 + (8 - q) + 1) e (byts (wb x ((4 - k) * 8 + (8 - q))) ++ [.int .u8 ((by8 x (8 * (k - 1) + (q - 1)) : Nat) : Int)]) 5 1) :
    OwnS s A ((4 - k) * 8 + (8 - (q - 1))) e (byts (wb x ((4 - k) * 8 + (8 - (q - 1))))) 5 1 := by
  rw [show (4 - k) * 8 + (8 - (q - 1)) = (4 - k) * 8 + (8 - q) + 1 by omega, wb_succ, ← byts_snoc, show 31 - ((4 - k) * 8 + (8 - q)) = 8 * (k - 1) + (q - 1) by omega]
  exact h

theorem bytes_calls (x : Nat) (w0 : World) : Ret Try.prog 65 [wv x] w0 [] (RetB (wb x 32)) := by
  refine fn_start Try.func65 rfl Try.ntmps65 rfl [(0, wv x)] ⟨rfl, trivial⟩ ?_
  intro Q a hP hF hR hN
  have hS := St.start w0
  refine wp_seq_k fun K1 hK1 => ?_
  refine wp_region_lit ?_
  refine so (wn rfl) (O.box rfl rfl hF (hF.ev rfl) rfl hS fun b1 a w hF hS => ?_)
  refine sv' hF (wn rfl) rfl rfl (R.assign (hF.ev rfl)) fun a hF => ?_
  refine s0 ?_
  refine then_n (hK1 _ _ ?_)
  refine wp_seq_k fun K2 hK2 => ?_
  refine wp_region_lit ?_
  refine so (wn rfl) (O.makeSlice rfl rfl hF Try.underlying82 inf5 rfl rfl (hF.ev rfl) (hF.ev rfl) (by omega) (by omega) (by omega) (by omega) hS fun b6 a w hF hS => ?_)
  refine sv' hF (wn rfl) rfl rfl (R.assign (hF.ev rfl)) fun a hF => ?_
  refine s0 ?_
  refine then_n (hK2 _ _ ?_)
  refine wp_seq_k fun K3 hK3 => ?_
  refine wp_seq_k fun K4 hK4 => ?_
  refine wp_region_lit ?_
  refine sv' hF (wn rfl) rfl rfl (R.assign (hF.ev rfl)) fun a hF => ?_
  refine s0 ?_
  refine then_n (hK4 _ _ ?_)
  refine wp_block ?_
  refine wp_loop_N (fun g a w => ∃ (k : Nat) (A : Option Addr) (e : Nat) (s : Seg), k = g ∧ Fr 25 [(1, .pointer (some ⟨b1, 0, none⟩)), (3, .slice A ((4 - k) * 8) e), (4, .int .i64 ((k : Nat) - 1 : Int))] a ∧ St w0 [] [[(b1, Cel (wc x) 29)], s] w ∧ (OwnS s A ((4 - k) * 8) e (byts (wb x ((4 - k) * 8))) 5 1) ∧ (k ≤ 4)) (4) ?_ ?_
  · exact ⟨4, some ⟨b6, 0, none⟩, 32, _, rfl, hF.sub ⟨rfl, rfl, rfl, trivial⟩, hS.sel [1, 0] rfl rfl, own_none b6, by omega⟩
  · rintro KL1 g a w ⟨k, A, e, s, hg1, hF, hS, hO, hk⟩ hKL1
    refine wp_seq_k fun K5 hK5 => ?_
    refine wp_seq_k fun K6 hK6 => ?_
    refine wp_region_lit ?_
    refine sv' hF (wn rfl) rfl rfl (R.move (hF.ev rfl)) fun a hF => ?_
    refine sv' hF (wn rfl) rfl rfl (R.geq (hF.ev rfl) (hF.ev rfl)) fun a hF => ?_
    refine s0 ?_
    refine then_n (hK6 _ _ ?_)
    refine cD hF rfl (fun c1 => ?_) (fun c1 => ?_)
    ·
      refine wp_skip ?_
      refine then_n (hK5 _ _ ?_)
      refine wp_seq_k fun K7 hK7 => ?_
      refine wp_block ?_
      refine wp_seq_k fun K8 hK8 => ?_
      refine wp_region_lit ?_
      refine sv' hF (wn rfl) rfl rfl (R.assign (hF.ev rfl)) fun a hF => ?_
      refine s0 ?_
      refine then_n (hK8 _ _ ?_)
      refine wp_block ?_
      refine wp_loop_N (fun g a w => ∃ (q : Nat) (A2 : Option Addr) (e2 : Nat) (s2 : Seg), q = g ∧ Fr 25 [(1, .pointer (some ⟨b1, 0, none⟩)), (3, .slice A2 ((4 - k) * 8 + (8 - q)) e2), (4, .int .i64 ((k : Nat) - 1 : Int)), (5, .int .i64 (8 * (q : Nat) - 8 : Int))] a ∧ St w0 [] [[(b1, Cel (wc x) 29)], s2] w ∧ (OwnS s2 A2 ((4 - k) * 8 + (8 - q)) e2 (byts (wb x ((4 - k) * 8 + (8 - q)))) 5 1) ∧ (q ≤ 8)) (8) ?_ ?_
      · exact ⟨8, A, e, s, rfl, hF.sub ⟨rfl, rfl, rfl, rfl, trivial⟩, hS.sel [0, 1] rfl rfl, hO, by omega⟩
      · rintro KL2 g a w ⟨q, A2, e2, s2, hg2, hF, hS, hO2, hq⟩ hKL2
        refine wp_seq_k fun K9 hK9 => ?_
        refine wp_seq_k fun K10 hK10 => ?_
        refine wp_region_lit ?_
        refine sv' hF (wn rfl) rfl rfl (R.move (hF.ev rfl)) fun a hF => ?_
        refine sv' hF (wn rfl) rfl rfl (R.geq (hF.ev rfl) (hF.ev rfl)) fun a hF => ?_
        refine s0 ?_
        refine then_n (hK10 _ _ ?_)
        refine cD hF rfl (fun c2 => ?_) (fun c2 => ?_)
        ·
          refine wp_skip ?_
          refine then_n (hK9 _ _ ?_)
          refine wp_seq_k fun K11 hK11 => ?_
          refine wp_block ?_
          refine wp_region_lit ?_
          refine sv' hF (wn rfl) rfl rfl (R.move (hF.ev rfl)) fun a hF => ?_
          refine sv' hF (wn rfl) rfl rfl (R.move (hF.ev rfl)) fun a hF => ?_
          refine sv' hF (wn rfl) rfl rfl (R.indexA Try.underlying29 sz27 (hF.ev rfl) (hF.ev rfl) (by omega) (by omega)) fun a hF => ?_
          refine sv' hF (wn rfl) rfl rfl (R.load one27 (hF.ev rfl) hS .h (wc_dn x k (by omega) hk)) fun a hF => ?_
          refine sv' hF (wn rfl) rfl rfl (R.move (hF.ev rfl)) fun a hF => ?_
          refine sv' hF (wn rfl) rfl rfl (R.shrU (m := 8 * (q - 1)) (hF.ev rfl) ((hF.ev rfl).trans (congrArg (Value.int .i64) (by omega))) (by omega)) fun a hF => ?_
          refine sv' hF (wn rfl) rfl rfl (R.as (u := .int .u8 ((by8 x (8 * (k - 1) + (q - 1)) : Nat) : Int)) (R.convB Try.underlying27 Try.underlying5 (hF.ev rfl)) (congrArg (fun z : Nat => Value.int .u8 (z : Int)) (dg_by8 x (k - 1) (q - 1) (by omega)))) fun a hF => ?_
          refine so (wn rfl) (O.buildSlice (l := [_]) rfl rfl hF Try.underlying82 inf5 rfl rfl (hF.evp rfl) (by decide) rfl hS fun b22 a w hF hS => ?_)
          refine so (wn rfl) (O.append rfl rfl hF Try.underlying82 inf5 rfl rfl (by decide) (hF.ev rfl) (hF.ev rfl) hS hO2 (fun _ => (.t (.t .h))) (Rd.own0 hS .h) (rfl) (by simp [Value.oneCell']) (by unfold maxLen; omega) (by omega) fun A23 c23 s23 a w hO23 hF hS => ?_)
          refine sv' hF (wn rfl) rfl rfl (R.assign (hF.ev rfl)) fun a hF => ?_
          refine s0 ?_
          refine blk_n ?_
          refine then_n (hK11 _ _ ?_)
          refine wp_region_lit ?_
          refine sv' hF (wn rfl) rfl rfl (R.move (hF.ev rfl)) fun a hF => ?_
          refine sv' hF (wn rfl) rfl rfl (R.subI (hF.ev rfl) (hF.ev rfl) (by omega)) fun a hF => ?_
          refine sv' hF (wn rfl) rfl rfl (R.assign (hF.ev rfl)) fun a hF => ?_
          refine s0 ?_
          refine then_n (hKL2 (q - 1) _ _ ?_ ?_)
          · omega
          · exact ⟨q - 1, A23, c23, s23, rfl, hF.sub ⟨rfl, (by rw [show (4 - k) * 8 + (8 - (q - 1)) = (4 - k) * 8 + (8 - q) + 1 by omega]; rfl), rfl, (congrArg (fun z => some (Value.int .i64 z)) (by omega)), trivial⟩, hS.sel [1, 2] rfl rfl, own_next (by omega) (by omega) hO23, by omega⟩
        ·
          obtain rfl : q = 0 := by omega
          refine wp_exit (then_x (then_x (blk_hit ?_)))
          refine blk_n ?_
          refine then_n (hK7 _ _ ?_)
          refine wp_region_lit ?_
          refine sv' hF (wn rfl) rfl rfl (R.move (hF.ev rfl)) fun a hF => ?_
          refine sv' hF (wn rfl) rfl rfl (R.subI (hF.ev rfl) (hF.ev rfl) (by omega)) fun a hF => ?_
          refine sv' hF (wn rfl) rfl rfl (R.assign (hF.ev rfl)) fun a hF => ?_
          refine s0 ?_
          refine then_n (hKL1 (k - 1) _ _ ?_ ?_)
          · omega
          · exact ⟨k - 1, A2, e2, s2, rfl, hF.sub ⟨rfl, (by rw [show (4 - (k - 1)) * 8 = (4 - k) * 8 + (8 - 0) by omega]; rfl), (congrArg (fun z => some (Value.int .i64 z)) (by omega)), trivial⟩, hS.sel [0, 1] rfl rfl, by rw [show (4 - (k - 1)) * 8 = (4 - k) * 8 + (8 - 0) by omega]; exact hO2, by omega⟩
    ·
      obtain rfl : k = 0 := by omega
      refine wp_exit (then_x (then_x (blk_hit ?_)))
      refine then_n (hK3 _ _ ?_)
      refine wp_seq_k fun K12 hK12 => ?_
      refine wp_region_lit ?_
      refine sv' hF (wn rfl) rfl rfl (R.move (hF.ev rfl)) fun a hF => ?_
      refine sv' hF (wn rfl) rfl rfl (R.assign (hF.ev rfl)) fun a hF => ?_
      refine s0 ?_
      refine then_n (hK12 _ _ ?_)
      refine wp_ret (hR _ _ _ _ _ hF (run_results Try.results65 (.t hF rfl (.nil))) ?_)
      exact ⟨_, _, rfl, ⟨_, _, by rw [length_wb]; rfl, by rw [length_wb]; exact hO⟩, hS.one (.t .h)⟩

theorem wc_oct (x i : Nat) (h : i < 32) : (wc x)[0 + ((i : Nat) / 8 : Int).toNat * 1]? = some (.int .u64 ((dg x (i / 8) : Nat) : Int)) := by
  have h1 := wc_at x (i / 8) (by omega)
  have h2 : ((i : Nat) / 8 : Int).toNat = (((i / 8 : Nat)) : Int).toNat := by omega
  rw [h2]; exact h1

theorem rbytes_calls (x : Nat) (w0 : World) : Ret Try.prog 66 [wv x] w0 [] (RetB (wb x 32)) := by
  refine fn_start Try.func66 rfl Try.ntmps66 rfl [(0, wv x)] ⟨rfl, trivial⟩ ?_
  intro Q a hP hF hR hN
  have hS := St.start w0
  refine wp_seq_k fun K1 hK1 => ?_
  refine wp_region_lit ?_
  refine so (wn rfl) (O.box rfl rfl hF (hF.ev rfl) rfl hS fun b1 a w hF hS => ?_)
  refine sv' hF (wn rfl) rfl rfl (R.assign (hF.ev rfl)) fun a hF => ?_
  refine s0 ?_
  refine then_n (hK1 _ _ ?_)
  refine wp_seq_k fun K2 hK2 => ?_
  refine wp_region_lit ?_
  refine so (wn rfl) (O.makeSlice rfl rfl hF Try.underlying82 inf5 rfl rfl (hF.ev rfl) (hF.ev rfl) (by omega) (by omega) (by omega) (by omega) hS fun b5 a w hF hS => ?_)
  refine sv' hF (wn rfl) rfl rfl (R.assign (hF.ev rfl)) fun a hF => ?_
  refine s0 ?_
  refine then_n (hK2 _ _ ?_)
  refine wp_seq_k fun K3 hK3 => ?_
  refine wp_seq_k fun K4 hK4 => ?_
  refine wp_region_lit ?_
  refine sv' hF (wn rfl) rfl rfl (R.assign (hF.ev rfl)) fun a hF => ?_
  refine s0 ?_
  refine then_n (hK4 _ _ ?_)
  refine wp_block ?_
  refine wp_loop_N (fun g a w => ∃ (i : Nat), 32 - i = g ∧ Fr 24 [(1, .pointer (some ⟨b1, 0, none⟩)), (3, .slice (some ⟨b5, 0, none⟩) 32 32), (4, .int .i64 ((i : Nat) : Int))] a ∧ St w0 [] [[(b1, Cel (wc x) 29)], [(b5, Cel (byts (rb x i)) 5)]] w ∧ (i ≤ 32)) (32 - 0) ?_ ?_
  · exact ⟨0, rfl, hF.sub ⟨rfl, rfl, rfl, trivial⟩, hS.sel [1, 0] rfl (by rw [← rb_0]; rfl), by omega⟩
  · rintro KL1 g a w ⟨i, hg1, hF, hS, hi⟩ hKL1
    refine wp_seq_k fun K5 hK5 => ?_
    refine wp_seq_k fun K6 hK6 => ?_
    refine wp_region_lit ?_
    refine sv' hF (wn rfl) rfl rfl (R.move (hF.ev rfl)) fun a hF => ?_
    refine sv' hF (wn rfl) rfl rfl (R.lss (hF.ev rfl) (hF.ev rfl)) fun a hF => ?_
    refine s0 ?_
    refine then_n (hK6 _ _ ?_)
    refine cD hF rfl (fun c1 => ?_) (fun c1 => ?_)
    ·
      refine wp_skip ?_
      refine then_n (hK5 _ _ ?_)
      refine wp_seq_k fun K7 hK7 => ?_
      refine wp_block ?_
      refine wp_region_lit ?_
      refine sv' hF (wn rfl) rfl rfl (R.move (hF.ev rfl)) fun a hF => ?_
      refine sv' hF (wn rfl) rfl rfl (R.move (hF.ev rfl)) fun a hF => ?_
      refine sv' hF (wn rfl) rfl rfl (R.subI (hF.ev rfl) (hF.ev rfl) (by omega)) fun a hF => ?_
      refine sv' hF (wn rfl) rfl rfl (R.move (hF.ev rfl)) fun a hF => ?_
      refine sv' hF (wn rfl) rfl rfl (R.quoI (hF.ev rfl) (hF.ev rfl) (by omega)) fun a hF => ?_
      refine sv' hF (wn rfl) rfl rfl (R.indexA Try.underlying29 sz27 (hF.ev rfl) (hF.ev rfl) (by omega) (by omega)) fun a hF => ?_
      refine sv' hF (wn rfl) rfl rfl (R.load one27 (hF.ev rfl) hS .h (wc_oct x i (by omega))) fun a hF => ?_
      refine sv' hF (wn rfl) rfl rfl (R.move (hF.ev rfl)) fun a hF => ?_
      refine sv' hF (wn rfl) rfl rfl (R.remI (hF.ev rfl) (hF.ev rfl) (by omega)) fun a hF => ?_
      refine sv' hF (wn rfl) rfl rfl (R.mulI (hF.ev rfl) (hF.ev rfl) (by omega)) fun a hF => ?_
      refine sv' hF (wn rfl) rfl rfl (R.shrU (m := 8 * (i % 8)) (hF.ev rfl) ((hF.ev rfl).trans (congrArg (Value.int .i64) (by omega))) (by omega)) fun a hF => ?_
      refine sv' hF (wn rfl) rfl rfl (R.as (u := .int .u8 ((by8 x i : Nat) : Int)) (R.convB Try.underlying27 Try.underlying5 (hF.ev rfl)) (congrArg (fun z : Nat => Value.int .u8 (z : Int)) ((dg_by8 x (i / 8) (i % 8) (by omega)).trans (by rw [show 8 * (i / 8) + i % 8 = i by omega])))) fun a hF => ?_
      refine sv' hF (wn rfl) rfl rfl (R.indexS Try.underlying82 sz5 (hF.ev rfl) (hF.ev rfl) (by omega) (by omega)) fun a hF => ?_
      refine so (wn rfl) (O.store sz5 (hF.ev rfl) (hF.ev rfl) rfl rfl hS (.t .h) (rb_set x i _ (by omega) (by omega)) (by rw [length_byts, length_rb]; omega) fun w hS => ?_)
      refine s0 ?_
      refine blk_n ?_
      refine then_n (hK7 _ _ ?_)
      refine wp_region_lit ?_
      refine sv' hF (wn rfl) rfl rfl (R.move (hF.ev rfl)) fun a hF => ?_
      refine sv' hF (wn rfl) rfl rfl (R.addI (hF.ev rfl) (hF.ev rfl) (by omega)) fun a hF => ?_
      refine sv' hF (wn rfl) rfl rfl (R.assign (hF.ev rfl)) fun a hF => ?_
      refine s0 ?_
      refine then_n (hKL1 (32 - (i + 1)) _ _ ?_ ?_)
      · omega
      · exact ⟨i + 1, rfl, hF.sub ⟨rfl, rfl, rfl, trivial⟩, hS.sel [0, 1] rfl rfl, by omega⟩
    ·
      obtain rfl : i = 32 := by omega
      rw [rb_32] at hS
      refine wp_exit (then_x (then_x (blk_hit ?_)))
      refine then_n (hK3 _ _ ?_)
      refine wp_seq_k fun K8 hK8 => ?_
      refine wp_region_lit ?_
      refine sv' hF (wn rfl) rfl rfl (R.move (hF.ev rfl)) fun a hF => ?_
      refine sv' hF (wn rfl) rfl rfl (R.assign (hF.ev rfl)) fun a hF => ?_
      refine s0 ?_
      refine then_n (hK8 _ _ ?_)
      refine wp_ret (hR _ _ _ _ _ hF (run_results Try.results66 (.t hF rfl (.nil))) ?_)
      exact ⟨_, _, rfl, ⟨_, _, by rw [length_wb]; rfl, own_fullB b5 (wb x 32) (by rw [length_wb]; decide)⟩, hS.one (.t .h)⟩

end Go.Proofs.Ythgecfjpacebeaa
