/- The calls of WideBytes. -/
import Derived.Test.YthgecfjpacebeaaCj
import Derived.Test.YthgecfjpacebeaaWF
namespace Go.Proofs.Ythgecfjpacebeaa
open Go Go.Fw Go.RowKit
attribute [local irreducible] Go.Oper.wp Go.Code.wp Go.wpList Go.Fw.WL Go.Calls
def rp (k : Nat) : List Nat := List.replicate 32 (11 * k + 1) ++ List.replicate 40 (11 * k + 2)
theorem rp_at (k j off : Nat) (h : j < 72) (ho : off = j) : (byts (rp k))[off]? = some (.int .u8 (((if j < 32 then 11 * k + 1 else 11 * k + 2 : Nat)) : Int)) := by
  subst ho
  rw [byts_get _ _ (by simp [rp]; exact h)]
  congr 3
  unfold rp
  rw [List.getD_eq_getElem?_getD]
  by_cases h2 : off < 32
  · rw [if_pos h2, List.getElem?_append_left (by simpa using h2), List.getElem?_replicate, if_pos h2]; rfl
  · rw [if_neg h2, List.getElem?_append_right (by simp; omega), List.getElem?_replicate, if_pos (by simp; omega)]; rfl
theorem rep_at (k j off : Nat) (h : j < 32) (ho : off = j) : (byts (List.replicate 32 k))[off]? = some (.int .u8 ((k : Nat) : Int)) := by
  subst ho
  rw [byts_get _ _ (by simpa using h), List.getD_eq_getElem?_getD, List.getElem?_replicate, if_pos h]; rfl
theorem fill_whole (b n c : Nat) (xs : List Nat) (mark : Nat) (w : World) (hO : Own w [(b, Cel (byts xs) 5)]) (hn : xs.length = n) (hnc : n ≤ 9223372036854775807) :
    Ret Try.prog 68 [.slice (some ⟨b, 0, none⟩) n c, .int .u8 ((mark : Nat) : Int)] w (List.map (·.1) ([(b, Cel (byts xs) 5)] : Seg)) (fun _ z => z = [(b, Cel (byts (List.replicate n mark)) 5)]) := by
  have h := fill_calls b n c xs [] mark w (by rw [List.append_nil]; exact hO) hn hnc
  simp only [List.append_nil, hn] at h
  exact h
theorem grow_rep (A : Option Addr) (k : Nat) (w : World) (hA : Rd w A (byts (List.replicate 32 (11 * k + 1)))) (mk : Nat) (hm : mk = 11 * k + 2) :
    Ret Try.prog 69 [.slice A 32 32, .int .i64 40, .int .u8 ((mk : Nat) : Int)] w [] (fun v s => ∃ A1 c1, v = .slice A1 72 c1 ∧ OwnS s A1 72 c1 (byts (rp k)) 5 1) := by
  subst hm
  exact growE_calls A 32 40 (11 * k + 2) (List.replicate 32 (11 * k + 1)) w hA (by decide) (by decide) (by simp) (by decide)
theorem own_nilB (b : Nat) : OwnS [(b, Cel [] 5)] (some ⟨b, 0, none⟩) 0 0 (byts []) 5 1 := OwnS.mk (cells := []) (rest := []) rfl (by decide) rfl (by decide)

theorem wideBytes_calls (m n : Nat) (B : Option Addr) (k d : Nat) (xs : List Nat) (w0 : World) (hB : Rd w0 B (byts xs)) (hk : xs.length = k) (hkd : k ≤ d) (hBy : Byt xs) (hd : d ≤ 140737488351232) : Ret Try.prog 16 [wv m, wv n, .slice B k d] w0 [] (fun v s => v = .bool true ∧ s = []) := by
  refine fn_start Try.func16 rfl Try.ntmps16 rfl [(0, wv m), (1, wv n), (2, .slice B k d)] ⟨rfl, rfl, rfl, trivial⟩ ?_
  intro Q a hP hF hR hN
  have hS := St.start w0
  refine wp_seq_k fun K1 hK1 => ?_
  refine wp_region_lit ?_
  refine so (wn rfl) (O.box rfl rfl hF (hF.ev rfl) rfl hS fun b3 a w hF hS => ?_)
  refine so (wn rfl) (O.box rfl rfl hF (hF.ev rfl) rfl hS fun b4 a w hF hS => ?_)
  refine sv' hF (wn rfl) rfl rfl (R.assign (hF.ev rfl)) fun a hF => ?_
  refine s0 ?_
  refine then_n (hK1 _ _ ?_)
  refine wp_seq_k fun K2 hK2 => ?_
  refine wp_region_lit ?_
  refine so (wn rfl) (O.call rfl rfl hF ent40 (hF.evs rfl) hS (known_calls _) fun v s27 a w hR hF hS => ?_)
  obtain ⟨rfl, rfl⟩ := hR
  refine sv' hF (wn rfl) rfl rfl (R.assign (hF.ev rfl)) fun a hF => ?_
  refine s0 ?_
  refine then_n (hK2 _ _ ?_)
  refine wp_seq_k fun K3 hK3 => ?_
  refine wp_region_lit ?_
  refine sv' hF (wn rfl) rfl rfl (R.loadW agg29 (hF.ev rfl) hS (.t (.t .h)) sz29 (rfl)) fun a hF => ?_
  refine so (wn rfl) (O.call rfl rfl hF ent65 (hF.evs rfl) hS (bytes32_calls m _) fun v s29 a w hR hF hS => ?_)
  obtain ⟨bx, rfl, rfl⟩ := hR
  refine sv' hF (wn rfl) rfl rfl (R.assign (hF.ev rfl)) fun a hF => ?_
  refine s0 ?_
  refine then_n (hK3 _ _ ?_)
  refine wp_seq_k fun K4 hK4 => ?_
  refine wp_region_lit ?_
  refine sv' hF (wn rfl) rfl rfl (R.loadW agg29 (hF.ev rfl) hS (.t (.t (.t .h))) sz29 (rfl)) fun a hF => ?_
  refine so (wn rfl) (O.call rfl rfl hF ent65 (hF.evs rfl) hS (bytes32_calls m _) fun v s31 a w hR hF hS => ?_)
  obtain ⟨bw, rfl, rfl⟩ := hR
  refine sv' hF (wn rfl) rfl rfl (R.assign (hF.ev rfl)) fun a hF => ?_
  refine s0 ?_
  refine then_n (hK4 _ _ ?_)
  refine wp_seq_k fun K5 hK5 => ?_
  refine wp_region_lit ?_
  refine sv' hF (wn rfl) rfl rfl (R.loadW agg29 (hF.ev rfl) hS (.t (.t (.t .h))) sz29 (rfl)) fun a hF => ?_
  refine so (wn rfl) (O.call rfl rfl hF ent65 (hF.evs rfl) hS (bytes32_calls n _) fun v s33 a w hR hF hS => ?_)
  obtain ⟨bz, rfl, rfl⟩ := hR
  refine sv' hF (wn rfl) rfl rfl (R.assign (hF.ev rfl)) fun a hF => ?_
  refine s0 ?_
  refine then_n (hK5 _ _ ?_)
  refine wp_seq_k fun K6 hK6 => ?_
  refine wp_region_lit ?_
  refine sv' hF (wn rfl) rfl rfl (R.loadW agg29 (hF.ev rfl) hS (.t (.t (.t (.t (.t .h))))) sz29 (rfl)) fun a hF => ?_
  refine so (wn rfl) (O.call rfl rfl hF ent66 (hF.evs rfl) hS (rbytes32_calls m _) fun v s35 a w hR hF hS => ?_)
  obtain ⟨A35, c35, rfl, hO35⟩ := hR
  refine sv' hF (wn rfl) rfl rfl (R.assign (hF.ev rfl)) fun a hF => ?_
  refine s0 ?_
  refine then_n (hK6 _ _ ?_)
  refine wp_seq_k fun K7 hK7 => ?_
  refine wp_region_lit ?_
  refine sv' hF (wn rfl) rfl rfl (R.loadW agg29 (hF.ev rfl) hS (.t (.t (.t (.t (.t .h))))) sz29 (rfl)) fun a hF => ?_
  refine so (wn rfl) (O.call rfl rfl hF ent66 (hF.evs rfl) hS (rbytes32_calls n _) fun v s37 a w hR hF hS => ?_)
  obtain ⟨A37, c37, rfl, hO37⟩ := hR
  refine sv' hF (wn rfl) rfl rfl (R.assign (hF.ev rfl)) fun a hF => ?_
  refine s0 ?_
  refine then_n (hK7 _ _ ?_)
  refine wp_seq_k fun K8 hK8 => ?_
  refine wp_seq_k fun K9 hK9 => ?_
  refine wp_region_lit ?_
  refine sv' hF (wn rfl) rfl rfl (R.move (hF.ev rfl)) fun a hF => ?_
  refine sv' hF (wn rfl) rfl rfl (R.as (u := .bool false) (R.not (b := true) (hF.ev rfl)) (rfl)) fun a hF => ?_
  refine sv' hF (wn rfl) rfl rfl (R.move (hF.ev rfl)) fun a hF => ?_
  refine sv' hF (wy hF rfl rfl rfl) rfl rfl (R.move (hF.ev rfl)) fun a hF => ?_
  refine sv' hF (wy hF rfl rfl rfl) rfl rfl (R.move (hF.ev rfl)) fun a hF => ?_
  refine so (wy hF rfl rfl rfl) (O.call rfl rfl hF ent67 (hF.evs rfl) hS (bytesAlike_calls (some ⟨bx, 0, none⟩) A35 32 c35 32 (wb m 32) w (Rd.own0 hS (.t (.t (.t (.t .h))))) (hO35.rd hS (.t .h)) (length_wb _ _)) fun v s43 a w hR hF hS => ?_)
  obtain ⟨rfl, rfl⟩ := hR
  refine sv' hF (wy hF rfl rfl rfl) rfl rfl (R.as (u := .bool false) (R.not (b := true) (hF.ev rfl)) (rfl)) fun a hF => ?_
  refine sv' hF (wn rfl) rfl rfl (R.pickF (hF.ev rfl) (hF.ev rfl)) fun a hF => ?_
  refine sv' hF (wn rfl) rfl rfl (R.move (hF.ev rfl)) fun a hF => ?_
  refine sv' hF (wy hF rfl rfl rfl) rfl rfl (R.move (hF.ev rfl)) fun a hF => ?_
  refine sv' hF (wy hF rfl rfl rfl) rfl rfl (R.move (hF.ev rfl)) fun a hF => ?_
  refine so (wy hF rfl rfl rfl) (O.call rfl rfl hF ent67 (hF.evs rfl) hS (bytesAlike_calls (some ⟨bw, 0, none⟩) A35 32 c35 32 (wb m 32) w (Rd.own0 hS (.t (.t (.t (.t .h))))) (hO35.rd hS (.t (.t .h))) (length_wb _ _)) fun v s49 a w hR hF hS => ?_)
  obtain ⟨rfl, rfl⟩ := hR
  refine sv' hF (wy hF rfl rfl rfl) rfl rfl (R.as (u := .bool false) (R.not (b := true) (hF.ev rfl)) (rfl)) fun a hF => ?_
  refine sv' hF (wn rfl) rfl rfl (R.pickF (hF.ev rfl) (hF.ev rfl)) fun a hF => ?_
  refine sv' hF (wn rfl) rfl rfl (R.move (hF.ev rfl)) fun a hF => ?_
  refine sv' hF (wy hF rfl rfl rfl) rfl rfl (R.move (hF.ev rfl)) fun a hF => ?_
  refine sv' hF (wy hF rfl rfl rfl) rfl rfl (R.move (hF.ev rfl)) fun a hF => ?_
  refine so (wy hF rfl rfl rfl) (O.call rfl rfl hF ent67 (hF.evs rfl) hS (bytesAlike_calls (some ⟨bz, 0, none⟩) A37 32 c37 32 (wb n 32) w (Rd.own0 hS (.t (.t (.t (.t .h))))) (hO37.rd hS (.t (.t .h))) (length_wb _ _)) fun v s55 a w hR hF hS => ?_)
  obtain ⟨rfl, rfl⟩ := hR
  refine sv' hF (wy hF rfl rfl rfl) rfl rfl (R.as (u := .bool false) (R.not (b := true) (hF.ev rfl)) (rfl)) fun a hF => ?_
  refine sv' hF (wn rfl) rfl rfl (R.pickF (hF.ev rfl) (hF.ev rfl)) fun a hF => ?_
  refine s0 ?_
  refine then_n (hK9 _ _ ?_)
  refine cF hF rfl ?_
  refine wp_skip ?_
  refine then_n (hK8 _ _ ?_)
  refine wp_seq_k fun K10 hK10 => ?_
  refine wp_region_lit ?_
  refine sv' hF (wn rfl) rfl rfl (R.move (hF.ev rfl)) fun a hF => ?_
  refine sv' hF (wn rfl) rfl rfl (R.move (hF.ev rfl)) fun a hF => ?_
  refine sv' hF (wn rfl) rfl rfl (R.move (hF.ev rfl)) fun a hF => ?_
  refine so (wn rfl) (O.buildSlice (l := [.slice (some ⟨bx, 0, none⟩) 32 32, .slice (some ⟨bw, 0, none⟩) 32 32, .slice (some ⟨bz, 0, none⟩) 32 32]) rfl rfl hF Try.underlying85 inf82 rfl rfl (hF.evp rfl) (by decide) rfl hS fun b61 a w hF hS => ?_)
  refine sv' hF (wn rfl) rfl rfl (R.assign (hF.ev rfl)) fun a hF => ?_
  refine s0 ?_
  refine then_n (hK10 _ _ ?_)
  refine wp_seq_k fun K11 hK11 => ?_
  refine wp_seq_k fun K12 hK12 => ?_
  refine wp_region_lit ?_
  refine sv' hF (wn rfl) rfl rfl (R.assign (hF.ev rfl)) fun a hF => ?_
  refine s0 ?_
  refine then_n (hK12 _ _ ?_)
  refine wp_block ?_
  refine wp_loop_N (fun g a w => ∃ (i : Nat), 3 - i = g ∧ Fr 217 [(2, .slice B k d), (3, .pointer (some ⟨b3, 0, none⟩)), (11, .slice A35 32 c35), (13, .slice (some ⟨b61, 0, none⟩) 3 3), (14, .int .i64 ((i : Nat) : Int))] a ∧ St w0 [] [[(b3, Cel (wc m) 29)], s35, [(b61, Cel [.slice (some ⟨bx, 0, none⟩) 32 32, .slice (some ⟨bw, 0, none⟩) 32 32, .slice (some ⟨bz, 0, none⟩) 32 32] 82)], [(bx, Cel (byts (if 0 < i then List.replicate 32 1 else wb m 32)) 5)], [(bw, Cel (byts (if 1 < i then List.replicate 32 12 else wb m 32)) 5)], [(bz, Cel (byts (if 2 < i then List.replicate 32 23 else wb n 32)) 5)]] w ∧ (i ≤ 3)) (3 - 0) ?_ ?_
  · exact ⟨0, rfl, hF.sub ⟨rfl, rfl, rfl, rfl, rfl, trivial⟩, hS.sel [11, 5, 0, 8, 7, 6] rfl rfl, by omega⟩
  · rintro KL1 g a w ⟨i, hg1, hF, hS, hi⟩ hKL1
    refine wp_seq_k fun K13 hK13 => ?_
    refine wp_seq_k fun K14 hK14 => ?_
    refine wp_region_lit ?_
    refine sv' hF (wn rfl) rfl rfl (R.move (hF.ev rfl)) fun a hF => ?_
    refine sv' hF (wn rfl) rfl rfl (R.move (hF.ev rfl)) fun a hF => ?_
    refine sv' hF (wn rfl) rfl rfl (R.len Try.underlying85 (hF.ev rfl)) fun a hF => ?_
    refine sv' hF (wn rfl) rfl rfl (R.lss (hF.ev rfl) (hF.ev rfl)) fun a hF => ?_
    refine s0 ?_
    refine then_n (hK14 _ _ ?_)
    refine cD hF rfl (fun hc1 => ?_) (fun hc1 => ?_)
    ·
      have hcs : i = 0 ∨ i = 1 ∨ i = 2 := (by omega); rcases hcs with rfl | rfl | rfl
      ·
        refine wp_skip ?_
        refine then_n (hK13 _ _ ?_)
        refine wp_seq_k fun K15 hK15 => ?_
        refine wp_block ?_
        refine wp_region_lit ?_
        refine sv' hF (wn rfl) rfl rfl (R.move (hF.ev rfl)) fun a hF => ?_
        refine sv' hF (wn rfl) rfl rfl (R.move (hF.ev rfl)) fun a hF => ?_
        refine sv' hF (wn rfl) rfl rfl (R.indexS Try.underlying85 sz82 (hF.ev rfl) (hF.ev rfl) (by omega) (by omega)) fun a hF => ?_
        refine sv' hF (wn rfl) rfl rfl (R.load one82 (hF.ev rfl) hS (.t (.t .h)) (rfl)) fun a hF => ?_
        refine sv' hF (wn rfl) rfl rfl (R.move (hF.ev rfl)) fun a hF => ?_
        refine sv' hF (wn rfl) rfl rfl (R.mulI (hF.ev rfl) (hF.ev rfl) (by omega)) fun a hF => ?_
        refine sv' hF (wn rfl) rfl rfl (R.addI (hF.ev rfl) (hF.ev rfl) (by omega)) fun a hF => ?_
        refine sv' hF (wn rfl) rfl rfl (R.as (u := .int .u8 ((1 : Nat) : Int)) (R.convert (k := .u8) Try.underlying3 Try.underlying5 (hF.ev rfl)) (rfl)) fun a hF => ?_
        refine so (wn rfl) (O.callK rfl rfl hF ent68 (hF.evs rfl) hS (fill_whole bx 32 32 (wb m 32) 1 w (hS.own1 (.t (.t (.t .h)))) (length_wb _ _) (by decide)) (fun _ => (.t (.t (.t .h)))) fun v s76 a w hR hF hS => ?_)
        obtain rfl := hR
        refine s0 ?_
        refine blk_n ?_
        refine then_n (hK15 _ _ ?_)
        refine wp_region_lit ?_
        refine sv' hF (wn rfl) rfl rfl (R.move (hF.ev rfl)) fun a hF => ?_
        refine sv' hF (wn rfl) rfl rfl (R.addI (hF.ev rfl) (hF.ev rfl) (by omega)) fun a hF => ?_
        refine sv' hF (wn rfl) rfl rfl (R.assign (hF.ev rfl)) fun a hF => ?_
        refine s0 ?_
        refine then_n (hKL1 (3 - 1) _ _ ?_ ?_)
        · omega
        · exact ⟨1, rfl, hF.sub ⟨rfl, rfl, rfl, rfl, rfl, trivial⟩, hS.sel [0, 1, 2, 3, 4, 5] rfl rfl, by omega⟩
      ·
        refine wp_skip ?_
        refine then_n (hK13 _ _ ?_)
        refine wp_seq_k fun K16 hK16 => ?_
        refine wp_block ?_
        refine wp_region_lit ?_
        refine sv' hF (wn rfl) rfl rfl (R.move (hF.ev rfl)) fun a hF => ?_
        refine sv' hF (wn rfl) rfl rfl (R.move (hF.ev rfl)) fun a hF => ?_
        refine sv' hF (wn rfl) rfl rfl (R.indexS Try.underlying85 sz82 (hF.ev rfl) (hF.ev rfl) (by omega) (by omega)) fun a hF => ?_
        refine sv' hF (wn rfl) rfl rfl (R.load one82 (hF.ev rfl) hS (.t (.t .h)) (rfl)) fun a hF => ?_
        refine sv' hF (wn rfl) rfl rfl (R.move (hF.ev rfl)) fun a hF => ?_
        refine sv' hF (wn rfl) rfl rfl (R.mulI (hF.ev rfl) (hF.ev rfl) (by omega)) fun a hF => ?_
        refine sv' hF (wn rfl) rfl rfl (R.addI (hF.ev rfl) (hF.ev rfl) (by omega)) fun a hF => ?_
        refine sv' hF (wn rfl) rfl rfl (R.as (u := .int .u8 ((12 : Nat) : Int)) (R.convert (k := .u8) Try.underlying3 Try.underlying5 (hF.ev rfl)) (rfl)) fun a hF => ?_
        refine so (wn rfl) (O.callK rfl rfl hF ent68 (hF.evs rfl) hS (fill_whole bw 32 32 (wb m 32) 12 w (hS.own1 (.t (.t (.t (.t .h))))) (length_wb _ _) (by decide)) (fun _ => (.t (.t (.t (.t .h))))) fun v s76 a w hR hF hS => ?_)
        obtain rfl := hR
        refine s0 ?_
        refine blk_n ?_
        refine then_n (hK16 _ _ ?_)
        refine wp_region_lit ?_
        refine sv' hF (wn rfl) rfl rfl (R.move (hF.ev rfl)) fun a hF => ?_
        refine sv' hF (wn rfl) rfl rfl (R.addI (hF.ev rfl) (hF.ev rfl) (by omega)) fun a hF => ?_
        refine sv' hF (wn rfl) rfl rfl (R.assign (hF.ev rfl)) fun a hF => ?_
        refine s0 ?_
        refine then_n (hKL1 (3 - 2) _ _ ?_ ?_)
        · omega
        · exact ⟨2, rfl, hF.sub ⟨rfl, rfl, rfl, rfl, rfl, trivial⟩, hS.sel [0, 1, 2, 3, 4, 5] rfl rfl, by omega⟩
      ·
        refine wp_skip ?_
        refine then_n (hK13 _ _ ?_)
        refine wp_seq_k fun K17 hK17 => ?_
        refine wp_block ?_
        refine wp_region_lit ?_
        refine sv' hF (wn rfl) rfl rfl (R.move (hF.ev rfl)) fun a hF => ?_
        refine sv' hF (wn rfl) rfl rfl (R.move (hF.ev rfl)) fun a hF => ?_
        refine sv' hF (wn rfl) rfl rfl (R.indexS Try.underlying85 sz82 (hF.ev rfl) (hF.ev rfl) (by omega) (by omega)) fun a hF => ?_
        refine sv' hF (wn rfl) rfl rfl (R.load one82 (hF.ev rfl) hS (.t (.t .h)) (rfl)) fun a hF => ?_
        refine sv' hF (wn rfl) rfl rfl (R.move (hF.ev rfl)) fun a hF => ?_
        refine sv' hF (wn rfl) rfl rfl (R.mulI (hF.ev rfl) (hF.ev rfl) (by omega)) fun a hF => ?_
        refine sv' hF (wn rfl) rfl rfl (R.addI (hF.ev rfl) (hF.ev rfl) (by omega)) fun a hF => ?_
        refine sv' hF (wn rfl) rfl rfl (R.as (u := .int .u8 ((23 : Nat) : Int)) (R.convert (k := .u8) Try.underlying3 Try.underlying5 (hF.ev rfl)) (rfl)) fun a hF => ?_
        refine so (wn rfl) (O.callK rfl rfl hF ent68 (hF.evs rfl) hS (fill_whole bz 32 32 (wb n 32) 23 w (hS.own1 (.t (.t (.t (.t (.t .h)))))) (length_wb _ _) (by decide)) (fun _ => (.t (.t (.t (.t (.t .h)))))) fun v s76 a w hR hF hS => ?_)
        obtain rfl := hR
        refine s0 ?_
        refine blk_n ?_
        refine then_n (hK17 _ _ ?_)
        refine wp_region_lit ?_
        refine sv' hF (wn rfl) rfl rfl (R.move (hF.ev rfl)) fun a hF => ?_
        refine sv' hF (wn rfl) rfl rfl (R.addI (hF.ev rfl) (hF.ev rfl) (by omega)) fun a hF => ?_
        refine sv' hF (wn rfl) rfl rfl (R.assign (hF.ev rfl)) fun a hF => ?_
        refine s0 ?_
        refine then_n (hKL1 (3 - 3) _ _ ?_ ?_)
        · omega
        · exact ⟨3, rfl, hF.sub ⟨rfl, rfl, rfl, rfl, rfl, trivial⟩, hS.sel [0, 1, 2, 3, 4, 5] rfl rfl, by omega⟩
    ·
      obtain rfl : i = 3 := by omega
      refine wp_exit (then_x (then_x (blk_hit ?_)))
      refine then_n (hK11 _ _ ?_)
      refine wp_seq_k fun K18 hK18 => ?_
      have hS := hS.cons0
      have hS := hS.cons0
      have hS := hS.cons0
      have hS := hS.cons0
      refine wp_region_lit ?_
      refine sv' hF (wn rfl) rfl rfl (R.assign (hF.ev rfl)) fun a hF => ?_
      refine s0 ?_
      refine then_n (hK18 _ _ ?_)
      refine wp_seq_k fun K19 hK19 => ?_
      refine wp_seq_k fun K20 hK20 => ?_
      refine wp_region_lit ?_
      refine sv' hF (wn rfl) rfl rfl (R.assign (hF.ev rfl)) fun a hF => ?_
      refine s0 ?_
      refine then_n (hK20 _ _ ?_)
      refine wp_block ?_
      refine wp_loop_N (fun g a w => ∃ (i : Nat) (A : Option Addr) (e : Nat) (s : Seg) (A0 : Option Addr) (c0 : Nat) (g0 : Seg) (A1 : Option Addr) (c1 : Nat) (g1 : Seg) (A2 : Option Addr) (c2 : Nat) (g2 : Seg), 3 - i = g ∧ Fr 217 [(2, .slice B k d), (3, .pointer (some ⟨b3, 0, none⟩)), (11, .slice A35 32 c35), (13, .slice (some ⟨b61, 0, none⟩) 3 3), (15, .slice A i e), (16, .int .i64 ((i : Nat) : Int))] a ∧ St w0 [] [[(b3, Cel (wc m) 29)], s35, [(b61, Cel [.slice (some ⟨bx, 0, none⟩) 32 32, .slice (some ⟨bw, 0, none⟩) 32 32, .slice (some ⟨bz, 0, none⟩) 32 32] 82)], [(bx, Cel (byts (List.replicate 32 1)) 5)], [(bw, Cel (byts (List.replicate 32 12)) 5)], [(bz, Cel (byts (List.replicate 32 23)) 5)], s, g0, g1, g2] w ∧ (i ≤ 3) ∧ (OwnS s A i e (([.slice A0 72 c0, .slice A1 72 c1, .slice A2 72 c2] : List Value).take i) 82 1) ∧ (0 < i → OwnS g0 A0 72 c0 (byts (rp 0)) 5 1) ∧ (1 < i → OwnS g1 A1 72 c1 (byts (rp 1)) 5 1) ∧ (2 < i → OwnS g2 A2 72 c2 (byts (rp 2)) 5 1)) (3 - 0) ?_ ?_
      · exact ⟨0, none, 0, [], none, 0, [], none, 0, [], none, 0, [], rfl, hF.sub ⟨rfl, rfl, rfl, rfl, rfl, rfl, trivial⟩, hS.sel [4, 5, 6, 7, 8, 9, 0, 1, 2, 3] rfl rfl, by omega, OwnS.nil 82 1, fun h => absurd h (by decide), fun h => absurd h (by decide), fun h => absurd h (by decide)⟩
      · rintro KL2 g a w ⟨i, A, e, s, A0, c0, g0, A1, c1, g1, A2, c2, g2, hg2, hF, hS, hi, hO, hg0, hg1, hg2⟩ hKL2
        refine wp_seq_k fun K21 hK21 => ?_
        refine wp_seq_k fun K22 hK22 => ?_
        refine wp_region_lit ?_
        refine sv' hF (wn rfl) rfl rfl (R.move (hF.ev rfl)) fun a hF => ?_
        refine sv' hF (wn rfl) rfl rfl (R.move (hF.ev rfl)) fun a hF => ?_
        refine sv' hF (wn rfl) rfl rfl (R.len Try.underlying85 (hF.ev rfl)) fun a hF => ?_
        refine sv' hF (wn rfl) rfl rfl (R.lss (hF.ev rfl) (hF.ev rfl)) fun a hF => ?_
        refine s0 ?_
        refine then_n (hK22 _ _ ?_)
        refine cD hF rfl (fun hc2 => ?_) (fun hc2 => ?_)
        ·
          have hcs : i = 0 ∨ i = 1 ∨ i = 2 := (by omega); rcases hcs with rfl | rfl | rfl
          ·
            refine wp_skip ?_
            refine then_n (hK21 _ _ ?_)
            refine wp_seq_k fun K23 hK23 => ?_
            refine wp_block ?_
            refine wp_region_lit ?_
            refine sv' hF (wn rfl) rfl rfl (R.move (hF.ev rfl)) fun a hF => ?_
            refine sv' hF (wn rfl) rfl rfl (R.move (hF.ev rfl)) fun a hF => ?_
            refine sv' hF (wn rfl) rfl rfl (R.move (hF.ev rfl)) fun a hF => ?_
            refine sv' hF (wn rfl) rfl rfl (R.indexS Try.underlying85 sz82 (hF.ev rfl) (hF.ev rfl) (by omega) (by omega)) fun a hF => ?_
            refine sv' hF (wn rfl) rfl rfl (R.load one82 (hF.ev rfl) hS (.t (.t .h)) (rfl)) fun a hF => ?_
            refine sv' hF (wn rfl) rfl rfl (R.move (hF.ev rfl)) fun a hF => ?_
            refine sv' hF (wn rfl) rfl rfl (R.mulI (hF.ev rfl) (hF.ev rfl) (by omega)) fun a hF => ?_
            refine sv' hF (wn rfl) rfl rfl (R.addI (hF.ev rfl) (hF.ev rfl) (by omega)) fun a hF => ?_
            refine sv' hF (wn rfl) rfl rfl (R.as (u := .int .u8 ((2 : Nat) : Int)) (R.convert (k := .u8) Try.underlying3 Try.underlying5 (hF.ev rfl)) (rfl)) fun a hF => ?_
            refine so (wn rfl) (O.call rfl rfl hF ent69 (hF.evs rfl) hS (grow_rep (some ⟨bx, 0, none⟩) 0 w (Rd.own0 hS (.t (.t (.t .h)))) 2 rfl) fun v s92 a w hR hF hS => ?_)
            obtain ⟨A92, c92, rfl, hO92⟩ := hR
            refine so (wn rfl) (O.buildSlice (l := [_]) rfl rfl hF Try.underlying85 inf82 rfl rfl (hF.evp rfl) (by decide) rfl hS fun b93 a w hF hS => ?_)
            refine so (wn rfl) (O.append rfl rfl hF Try.underlying85 inf82 rfl rfl (by decide) (hF.ev rfl) (hF.ev rfl) hS hO (fun _ => (.t (.t (.t (.t (.t (.t (.t (.t .h))))))))) (Rd.own0 hS .h) (rfl) (by simp [Value.oneCell']) (by unfold maxLen; omega) (by omega) fun A94 c94 s94 a w hO94 hF hS => ?_)
            refine sv' hF (wn rfl) rfl rfl (R.assign (hF.ev rfl)) fun a hF => ?_
            refine s0 ?_
            refine blk_n ?_
            refine then_n (hK23 _ _ ?_)
            refine wp_region_lit ?_
            refine sv' hF (wn rfl) rfl rfl (R.move (hF.ev rfl)) fun a hF => ?_
            refine sv' hF (wn rfl) rfl rfl (R.addI (hF.ev rfl) (hF.ev rfl) (by omega)) fun a hF => ?_
            refine sv' hF (wn rfl) rfl rfl (R.assign (hF.ev rfl)) fun a hF => ?_
            refine s0 ?_
            refine then_n (hKL2 (3 - 1) _ _ ?_ ?_)
            · omega
            · exact ⟨1, A94, c94, s94, A92, c92, s92, A1, c1, g1, A2, c2, g2, rfl, hF.sub ⟨rfl, rfl, rfl, rfl, rfl, rfl, trivial⟩, hS.sel [2, 3, 4, 5, 6, 7, 8, 1, 10, 11] rfl rfl, by omega, hO94, fun _ => hO92, fun h => absurd h (by decide), fun h => absurd h (by decide)⟩
          ·
            refine wp_skip ?_
            refine then_n (hK21 _ _ ?_)
            refine wp_seq_k fun K24 hK24 => ?_
            refine wp_block ?_
            refine wp_region_lit ?_
            refine sv' hF (wn rfl) rfl rfl (R.move (hF.ev rfl)) fun a hF => ?_
            refine sv' hF (wn rfl) rfl rfl (R.move (hF.ev rfl)) fun a hF => ?_
            refine sv' hF (wn rfl) rfl rfl (R.move (hF.ev rfl)) fun a hF => ?_
            refine sv' hF (wn rfl) rfl rfl (R.indexS Try.underlying85 sz82 (hF.ev rfl) (hF.ev rfl) (by omega) (by omega)) fun a hF => ?_
            refine sv' hF (wn rfl) rfl rfl (R.load one82 (hF.ev rfl) hS (.t (.t .h)) (rfl)) fun a hF => ?_
            refine sv' hF (wn rfl) rfl rfl (R.move (hF.ev rfl)) fun a hF => ?_
            refine sv' hF (wn rfl) rfl rfl (R.mulI (hF.ev rfl) (hF.ev rfl) (by omega)) fun a hF => ?_
            refine sv' hF (wn rfl) rfl rfl (R.addI (hF.ev rfl) (hF.ev rfl) (by omega)) fun a hF => ?_
            refine sv' hF (wn rfl) rfl rfl (R.as (u := .int .u8 ((13 : Nat) : Int)) (R.convert (k := .u8) Try.underlying3 Try.underlying5 (hF.ev rfl)) (rfl)) fun a hF => ?_
            refine so (wn rfl) (O.call rfl rfl hF ent69 (hF.evs rfl) hS (grow_rep (some ⟨bw, 0, none⟩) 1 w (Rd.own0 hS (.t (.t (.t (.t .h))))) 13 rfl) fun v s92 a w hR hF hS => ?_)
            obtain ⟨A92, c92, rfl, hO92⟩ := hR
            refine so (wn rfl) (O.buildSlice (l := [_]) rfl rfl hF Try.underlying85 inf82 rfl rfl (hF.evp rfl) (by decide) rfl hS fun b93 a w hF hS => ?_)
            refine so (wn rfl) (O.append rfl rfl hF Try.underlying85 inf82 rfl rfl (by decide) (hF.ev rfl) (hF.ev rfl) hS hO (fun _ => (.t (.t (.t (.t (.t (.t (.t (.t .h))))))))) (Rd.own0 hS .h) (rfl) (by simp [Value.oneCell']) (by unfold maxLen; omega) (by omega) fun A94 c94 s94 a w hO94 hF hS => ?_)
            refine sv' hF (wn rfl) rfl rfl (R.assign (hF.ev rfl)) fun a hF => ?_
            refine s0 ?_
            refine blk_n ?_
            refine then_n (hK24 _ _ ?_)
            refine wp_region_lit ?_
            refine sv' hF (wn rfl) rfl rfl (R.move (hF.ev rfl)) fun a hF => ?_
            refine sv' hF (wn rfl) rfl rfl (R.addI (hF.ev rfl) (hF.ev rfl) (by omega)) fun a hF => ?_
            refine sv' hF (wn rfl) rfl rfl (R.assign (hF.ev rfl)) fun a hF => ?_
            refine s0 ?_
            refine then_n (hKL2 (3 - 2) _ _ ?_ ?_)
            · omega
            · exact ⟨2, A94, c94, s94, A0, c0, g0, A92, c92, s92, A2, c2, g2, rfl, hF.sub ⟨rfl, rfl, rfl, rfl, rfl, rfl, trivial⟩, hS.sel [2, 3, 4, 5, 6, 7, 8, 9, 1, 11] rfl rfl, by omega, hO94, fun _ => hg0 (by decide), fun _ => hO92, fun h => absurd h (by decide)⟩
          ·
            refine wp_skip ?_
            refine then_n (hK21 _ _ ?_)
            refine wp_seq_k fun K25 hK25 => ?_
            refine wp_block ?_
            refine wp_region_lit ?_
            refine sv' hF (wn rfl) rfl rfl (R.move (hF.ev rfl)) fun a hF => ?_
            refine sv' hF (wn rfl) rfl rfl (R.move (hF.ev rfl)) fun a hF => ?_
            refine sv' hF (wn rfl) rfl rfl (R.move (hF.ev rfl)) fun a hF => ?_
            refine sv' hF (wn rfl) rfl rfl (R.indexS Try.underlying85 sz82 (hF.ev rfl) (hF.ev rfl) (by omega) (by omega)) fun a hF => ?_
            refine sv' hF (wn rfl) rfl rfl (R.load one82 (hF.ev rfl) hS (.t (.t .h)) (rfl)) fun a hF => ?_
            refine sv' hF (wn rfl) rfl rfl (R.move (hF.ev rfl)) fun a hF => ?_
            refine sv' hF (wn rfl) rfl rfl (R.mulI (hF.ev rfl) (hF.ev rfl) (by omega)) fun a hF => ?_
            refine sv' hF (wn rfl) rfl rfl (R.addI (hF.ev rfl) (hF.ev rfl) (by omega)) fun a hF => ?_
            refine sv' hF (wn rfl) rfl rfl (R.as (u := .int .u8 ((24 : Nat) : Int)) (R.convert (k := .u8) Try.underlying3 Try.underlying5 (hF.ev rfl)) (rfl)) fun a hF => ?_
            refine so (wn rfl) (O.call rfl rfl hF ent69 (hF.evs rfl) hS (grow_rep (some ⟨bz, 0, none⟩) 2 w (Rd.own0 hS (.t (.t (.t (.t (.t .h)))))) 24 rfl) fun v s92 a w hR hF hS => ?_)
            obtain ⟨A92, c92, rfl, hO92⟩ := hR
            refine so (wn rfl) (O.buildSlice (l := [_]) rfl rfl hF Try.underlying85 inf82 rfl rfl (hF.evp rfl) (by decide) rfl hS fun b93 a w hF hS => ?_)
            refine so (wn rfl) (O.append rfl rfl hF Try.underlying85 inf82 rfl rfl (by decide) (hF.ev rfl) (hF.ev rfl) hS hO (fun _ => (.t (.t (.t (.t (.t (.t (.t (.t .h))))))))) (Rd.own0 hS .h) (rfl) (by simp [Value.oneCell']) (by unfold maxLen; omega) (by omega) fun A94 c94 s94 a w hO94 hF hS => ?_)
            refine sv' hF (wn rfl) rfl rfl (R.assign (hF.ev rfl)) fun a hF => ?_
            refine s0 ?_
            refine blk_n ?_
            refine then_n (hK25 _ _ ?_)
            refine wp_region_lit ?_
            refine sv' hF (wn rfl) rfl rfl (R.move (hF.ev rfl)) fun a hF => ?_
            refine sv' hF (wn rfl) rfl rfl (R.addI (hF.ev rfl) (hF.ev rfl) (by omega)) fun a hF => ?_
            refine sv' hF (wn rfl) rfl rfl (R.assign (hF.ev rfl)) fun a hF => ?_
            refine s0 ?_
            refine then_n (hKL2 (3 - 3) _ _ ?_ ?_)
            · omega
            · exact ⟨3, A94, c94, s94, A0, c0, g0, A1, c1, g1, A92, c92, s92, rfl, hF.sub ⟨rfl, rfl, rfl, rfl, rfl, rfl, trivial⟩, hS.sel [2, 3, 4, 5, 6, 7, 8, 9, 10, 1] rfl rfl, by omega, hO94, fun _ => hg0 (by decide), fun _ => hg1 (by decide), fun _ => hO92⟩
        ·
          obtain rfl : i = 3 := by omega
          have hg0 := hg0 (by decide)
          have hg1 := hg1 (by decide)
          have hg2 := hg2 (by decide)
          refine wp_exit (then_x (then_x (blk_hit ?_)))
          refine then_n (hK19 _ _ ?_)
          refine wp_seq_k fun K26 hK26 => ?_
          refine wp_seq_k fun K27 hK27 => ?_
          refine wp_region_lit ?_
          refine sv' hF (wn rfl) rfl rfl (R.assign (hF.ev rfl)) fun a hF => ?_
          refine s0 ?_
          refine then_n (hK27 _ _ ?_)
          refine wp_block ?_
          refine wp_loop_N (fun g a w => ∃ (i : Nat), 3 - i = g ∧ Fr 217 [(2, .slice B k d), (3, .pointer (some ⟨b3, 0, none⟩)), (11, .slice A35 32 c35), (13, .slice (some ⟨b61, 0, none⟩) 3 3), (15, .slice A 3 e), (17, .int .i64 ((i : Nat) : Int))] a ∧ St w0 [] [[(b3, Cel (wc m) 29)], s35, [(b61, Cel [.slice (some ⟨bx, 0, none⟩) 32 32, .slice (some ⟨bw, 0, none⟩) 32 32, .slice (some ⟨bz, 0, none⟩) 32 32] 82)], [(bx, Cel (byts (List.replicate 32 1)) 5)], [(bw, Cel (byts (List.replicate 32 12)) 5)], [(bz, Cel (byts (List.replicate 32 23)) 5)], s, g0, g1, g2] w ∧ (i ≤ 3)) (3 - 0) ?_ ?_
          · exact ⟨0, rfl, hF.sub ⟨rfl, rfl, rfl, rfl, rfl, rfl, trivial⟩, hS.sel [0, 1, 2, 3, 4, 5, 6, 7, 8, 9] rfl rfl, by omega⟩
          · rintro KL3 g a w ⟨i, hg3, hF, hS, hi3⟩ hKL3
            refine wp_seq_k fun K28 hK28 => ?_
            refine wp_seq_k fun K29 hK29 => ?_
            refine wp_region_lit ?_
            refine sv' hF (wn rfl) rfl rfl (R.move (hF.ev rfl)) fun a hF => ?_
            refine sv' hF (wn rfl) rfl rfl (R.move (hF.ev rfl)) fun a hF => ?_
            refine sv' hF (wn rfl) rfl rfl (R.len Try.underlying85 (hF.ev rfl)) fun a hF => ?_
            refine sv' hF (wn rfl) rfl rfl (R.lss (hF.ev rfl) (hF.ev rfl)) fun a hF => ?_
            refine s0 ?_
            refine then_n (hK29 _ _ ?_)
            refine cD hF rfl (fun hc3 => ?_) (fun hc3 => ?_)
            ·
              have hcs : i = 0 ∨ i = 1 ∨ i = 2 := (by omega); rcases hcs with rfl | rfl | rfl
              ·
                refine wp_skip ?_
                refine then_n (hK28 _ _ ?_)
                refine wp_seq_k fun K30 hK30 => ?_
                refine wp_block ?_
                refine wp_seq_k fun K31 hK31 => ?_
                refine wp_region_lit ?_
                refine sv' hF (wn rfl) rfl rfl (R.assign (hF.ev rfl)) fun a hF => ?_
                refine s0 ?_
                refine then_n (hK31 _ _ ?_)
                refine wp_block ?_
                refine wp_loop_N (fun g a w => ∃ (j : Nat), 72 - j = g ∧ Fr 217 [(2, .slice B k d), (3, .pointer (some ⟨b3, 0, none⟩)), (11, .slice A35 32 c35), (13, .slice (some ⟨b61, 0, none⟩) 3 3), (15, .slice A 3 e), (17, .int .i64 ((0 : Nat) : Int)), (18, .int .i64 ((j : Nat) : Int))] a ∧ St w0 [] [[(b3, Cel (wc m) 29)], s35, [(b61, Cel [.slice (some ⟨bx, 0, none⟩) 32 32, .slice (some ⟨bw, 0, none⟩) 32 32, .slice (some ⟨bz, 0, none⟩) 32 32] 82)], [(bx, Cel (byts (List.replicate 32 1)) 5)], [(bw, Cel (byts (List.replicate 32 12)) 5)], [(bz, Cel (byts (List.replicate 32 23)) 5)], s, g0, g1, g2] w ∧ (j ≤ 72)) (72 - 0) ?_ ?_
                · exact ⟨0, rfl, hF.sub ⟨rfl, rfl, rfl, rfl, rfl, rfl, rfl, trivial⟩, hS.sel [0, 1, 2, 3, 4, 5, 6, 7, 8, 9] rfl rfl, by omega⟩
                · rintro KL4 g a w ⟨j, hg4, hF, hS, hj⟩ hKL4
                  refine wp_seq_k fun K32 hK32 => ?_
                  refine wp_seq_k fun K33 hK33 => ?_
                  refine wp_region_lit ?_
                  refine sv' hF (wn rfl) rfl rfl (R.move (hF.ev rfl)) fun a hF => ?_
                  refine sv' hF (wn rfl) rfl rfl (R.move (hF.ev rfl)) fun a hF => ?_
                  refine sv' hF (wn rfl) rfl rfl (R.move (hF.ev rfl)) fun a hF => ?_
                  refine sv' hF (wn rfl) rfl rfl (R.indexO Try.underlying85 sz82 (hF.ev rfl) (Rd.ne (hO.rd hS (.t (.t (.t (.t (.t (.t .h))))))) (Nat.succ_pos _)) (hF.ev rfl) (by omega) (by omega)) fun a hF => ?_
                  refine sv' hF (wn rfl) rfl rfl (R.loadO one82 (hF.ev rfl) (hO.rd hS (.t (.t (.t (.t (.t (.t .h))))))) (rfl)) fun a hF => ?_
                  refine sv' hF (wn rfl) rfl rfl (R.len Try.underlying82 (hF.ev rfl)) fun a hF => ?_
                  refine sv' hF (wn rfl) rfl rfl (R.lss (hF.ev rfl) (hF.ev rfl)) fun a hF => ?_
                  refine s0 ?_
                  refine then_n (hK33 _ _ ?_)
                  refine cD hF rfl (fun c5 => ?_) (fun c5 => ?_)
                  ·
                    refine wp_skip ?_
                    refine then_n (hK32 _ _ ?_)
                    refine wp_seq_k fun K34 hK34 => ?_
                    refine wp_block ?_
                    refine wp_seq_k fun K35 hK35 => ?_
                    refine wp_region_lit ?_
                    refine sv' hF (wn rfl) rfl rfl (R.move (hF.ev rfl)) fun a hF => ?_
                    refine sv' hF (wn rfl) rfl rfl (R.mulI (hF.ev rfl) (hF.ev rfl) (by omega)) fun a hF => ?_
                    refine sv' hF (wn rfl) rfl rfl (R.addI (hF.ev rfl) (hF.ev rfl) (by omega)) fun a hF => ?_
                    refine sv' hF (wn rfl) rfl rfl (R.as (u := .int .u8 ((2 : Nat) : Int)) (R.convert (k := .u8) Try.underlying3 Try.underlying5 (hF.ev rfl)) (rfl)) fun a hF => ?_
                    refine sv' hF (wn rfl) rfl rfl (R.assign (hF.ev rfl)) fun a hF => ?_
                    refine s0 ?_
                    refine then_n (hK35 _ _ ?_)
                    refine wp_seq_k fun K36 hK36 => ?_
                    have hK36' : ∀ a w, (Fr 217 [(2, .slice B k d), (3, .pointer (some ⟨b3, 0, none⟩)), (11, .slice A35 32 c35), (13, .slice (some ⟨b61, 0, none⟩) 3 3), (15, .slice A 3 e), (17, .int .i64 ((0 : Nat) : Int)), (18, .int .i64 ((j : Nat) : Int)), (19, .int .u8 ((if j < 32 then 1 else 2 : Nat) : Int))] a ∧ St w0 [] [[(b3, Cel (wc m) 29)], s35, [(b61, Cel [.slice (some ⟨bx, 0, none⟩) 32 32, .slice (some ⟨bw, 0, none⟩) 32 32, .slice (some ⟨bz, 0, none⟩) 32 32] 82)], [(bx, Cel (byts (List.replicate 32 1)) 5)], [(bw, Cel (byts (List.replicate 32 12)) 5)], [(bz, Cel (byts (List.replicate 32 23)) 5)], s, g0, g1, g2] w) → K36 a w := by
                      rintro a w ⟨hF, hS⟩
                      refine hK36 _ _ ?_
                      refine wp_seq_k fun K37 hK37 => ?_
                      refine wp_region_lit ?_
                      refine sv' hF (wn rfl) rfl rfl (R.move (hF.ev rfl)) fun a hF => ?_
                      refine sv' hF (wn rfl) rfl rfl (R.move (hF.ev rfl)) fun a hF => ?_
                      refine sv' hF (wn rfl) rfl rfl (R.indexO Try.underlying85 sz82 (hF.ev rfl) (Rd.ne (hO.rd hS (.t (.t (.t (.t (.t (.t .h))))))) (Nat.succ_pos _)) (hF.ev rfl) (by omega) (by omega)) fun a hF => ?_
                      refine sv' hF (wn rfl) rfl rfl (R.loadO one82 (hF.ev rfl) (hO.rd hS (.t (.t (.t (.t (.t (.t .h))))))) (rfl)) fun a hF => ?_
                      refine sv' hF (wn rfl) rfl rfl (R.move (hF.ev rfl)) fun a hF => ?_
                      refine sv' hF (wn rfl) rfl rfl (R.indexO Try.underlying82 sz5 (hF.ev rfl) (Rd.ne (hg0.rd hS (.t (.t (.t (.t (.t (.t (.t .h)))))))) (by rw [length_byts]; decide)) (hF.ev rfl) (by omega) (by omega)) fun a hF => ?_
                      refine sv' hF (wn rfl) rfl rfl (R.loadO one5 (hF.ev rfl) (hg0.rd hS (.t (.t (.t (.t (.t (.t (.t .h)))))))) (rp_at 0 j _ (by omega) (by omega))) fun a hF => ?_
                      refine sv' hF (wn rfl) rfl rfl (R.move (hF.ev rfl)) fun a hF => ?_
                      refine sv' hF (wn rfl) rfl rfl (R.as (u := .bool false) (R.neq (p := ((if j < 32 then 11 * 0 + 1 else 11 * 0 + 2 : Nat) : Int)) (q := ((if j < 32 then 1 else 2 : Nat) : Int)) (hF.ev rfl) (hF.ev rfl)) (congrArg Value.bool (decide_eq_false (fun h => h rfl)))) fun a hF => ?_
                      refine sv' hF (wn rfl) rfl rfl (R.move (hF.ev rfl)) fun a hF => ?_
                      refine sv' hF (wy hF rfl rfl rfl) rfl rfl (R.move (hF.ev rfl)) fun a hF => ?_
                      refine sv' hF (wy hF rfl rfl rfl) rfl rfl (R.move (hF.ev rfl)) fun a hF => ?_
                      refine sv' hF (wy hF rfl rfl rfl) rfl rfl (R.move (hF.ev rfl)) fun a hF => ?_
                      refine sv' hF (wy hF rfl rfl rfl) rfl rfl (R.indexS Try.underlying85 sz82 (hF.ev rfl) (hF.ev rfl) (by omega) (by omega)) fun a hF => ?_
                      refine sv' hF (wy hF rfl rfl rfl) rfl rfl (R.load one82 (hF.ev rfl) hS (.t (.t .h)) (rfl)) fun a hF => ?_
                      refine sv' hF (wy hF rfl rfl rfl) rfl rfl (R.len Try.underlying82 (hF.ev rfl)) fun a hF => ?_
                      refine sv' hF (wy hF rfl rfl rfl) rfl rfl (R.lss (hF.ev rfl) (hF.ev rfl)) fun a hF => ?_
                      refine sv' hF (wy hF rfl rfl rfl) rfl rfl (R.move (hF.ev rfl)) fun a hF => ?_
                      refine hF.splitD (t := 142) rfl (fun h142 hF => ?_) (fun h142 hF => ?_)
                      ·
                        refine sv' hF (wy hF rfl rfl rfl) rfl rfl (R.move (hF.ev rfl)) fun a hF => ?_
                        refine sv' hF (wy hF rfl rfl rfl) rfl rfl (R.move (hF.ev rfl)) fun a hF => ?_
                        refine sv' hF (wy hF rfl rfl rfl) rfl rfl (R.indexS Try.underlying85 sz82 (hF.ev rfl) (hF.ev rfl) (by omega) (by omega)) fun a hF => ?_
                        refine sv' hF (wy hF rfl rfl rfl) rfl rfl (R.load one82 (hF.ev rfl) hS (.t (.t .h)) (rfl)) fun a hF => ?_
                        refine sv' hF (wy hF rfl rfl rfl) rfl rfl (R.move (hF.ev rfl)) fun a hF => ?_
                        refine sv' hF (wy hF rfl rfl rfl) rfl rfl (R.indexS Try.underlying82 sz5 (hF.ev rfl) (hF.ev rfl) (by omega) (by omega)) fun a hF => ?_
                        refine sv' hF (wy hF rfl rfl rfl) rfl rfl (R.load one5 (hF.ev rfl) hS (.t (.t (.t .h))) (rep_at 1 j _ (by omega) (by omega))) fun a hF => ?_
                        refine sv' hF (wy hF rfl rfl rfl) rfl rfl (R.move (hF.ev rfl)) fun a hF => ?_
                        refine sv' hF (wy hF rfl rfl rfl) rfl rfl (R.as (u := .bool false) (R.neq (p := ((1 : Nat) : Int)) (q := ((if j < 32 then 1 else 2 : Nat) : Int)) (hF.ev rfl) (hF.ev rfl)) (congrArg Value.bool (decide_eq_false (fun h => h (by rw [if_pos (show j < 32 by omega)]))))) fun a hF => ?_
                        refine sv' hF (wy hF rfl rfl rfl) rfl rfl (R.pickT (hF.ev rfl) (hF.ev rfl)) fun a hF => ?_
                        refine sv' hF (wn rfl) rfl rfl (R.pickF (hF.ev rfl) (hF.ev rfl)) fun a hF => ?_
                        refine s0 ?_
                        refine then_n (hK37 _ _ ?_)
                        refine cF hF rfl ?_
                        refine wp_skip ?_
                        refine blk_n ?_
                        refine then_n (hK34 _ _ ?_)
                        refine wp_region_lit ?_
                        refine sv' hF (wn rfl) rfl rfl (R.move (hF.ev rfl)) fun a hF => ?_
                        refine sv' hF (wn rfl) rfl rfl (R.addI (hF.ev rfl) (hF.ev rfl) (by omega)) fun a hF => ?_
                        refine sv' hF (wn rfl) rfl rfl (R.assign (hF.ev rfl)) fun a hF => ?_
                        refine s0 ?_
                        refine then_n (hKL4 (72 - (j + 1)) _ _ ?_ ?_)
                        · omega
                        · exact ⟨j + 1, rfl, hF.sub ⟨rfl, rfl, rfl, rfl, rfl, rfl, rfl, trivial⟩, hS.sel [0, 1, 2, 3, 4, 5, 6, 7, 8, 9] rfl rfl, by omega⟩
                      ·
                        refine sk hF (ws hF rfl rfl rfl rfl) rfl rfl fun a hF => ?_
                        refine sk hF (ws hF rfl rfl rfl rfl) rfl rfl fun a hF => ?_
                        refine sk hF (ws hF rfl rfl rfl rfl) rfl rfl fun a hF => ?_
                        refine sk hF (ws hF rfl rfl rfl rfl) rfl rfl fun a hF => ?_
                        refine sk hF (ws hF rfl rfl rfl rfl) rfl rfl fun a hF => ?_
                        refine sk hF (ws hF rfl rfl rfl rfl) rfl rfl fun a hF => ?_
                        refine sk hF (ws hF rfl rfl rfl rfl) rfl rfl fun a hF => ?_
                        refine sk hF (ws hF rfl rfl rfl rfl) rfl rfl fun a hF => ?_
                        refine sk hF (ws hF rfl rfl rfl rfl) rfl rfl fun a hF => ?_
                        refine sv' hF (wy hF rfl rfl rfl) rfl rfl (R.pickF (hF.ev rfl) (hF.ev rfl)) fun a hF => ?_
                        refine sv' hF (wn rfl) rfl rfl (R.pickF (hF.ev rfl) (hF.ev rfl)) fun a hF => ?_
                        refine s0 ?_
                        refine then_n (hK37 _ _ ?_)
                        refine cF hF rfl ?_
                        refine wp_skip ?_
                        refine blk_n ?_
                        refine then_n (hK34 _ _ ?_)
                        refine wp_region_lit ?_
                        refine sv' hF (wn rfl) rfl rfl (R.move (hF.ev rfl)) fun a hF => ?_
                        refine sv' hF (wn rfl) rfl rfl (R.addI (hF.ev rfl) (hF.ev rfl) (by omega)) fun a hF => ?_
                        refine sv' hF (wn rfl) rfl rfl (R.assign (hF.ev rfl)) fun a hF => ?_
                        refine s0 ?_
                        refine then_n (hKL4 (72 - (j + 1)) _ _ ?_ ?_)
                        · omega
                        · exact ⟨j + 1, rfl, hF.sub ⟨rfl, rfl, rfl, rfl, rfl, rfl, rfl, trivial⟩, hS.sel [0, 1, 2, 3, 4, 5, 6, 7, 8, 9] rfl rfl, by omega⟩
                    refine wp_seq_k fun K38 hK38 => ?_
                    refine wp_region_lit ?_
                    refine sv' hF (wn rfl) rfl rfl (R.move (hF.ev rfl)) fun a hF => ?_
                    refine sv' hF (wn rfl) rfl rfl (R.move (hF.ev rfl)) fun a hF => ?_
                    refine sv' hF (wn rfl) rfl rfl (R.move (hF.ev rfl)) fun a hF => ?_
                    refine sv' hF (wn rfl) rfl rfl (R.indexS Try.underlying85 sz82 (hF.ev rfl) (hF.ev rfl) (by omega) (by omega)) fun a hF => ?_
                    refine sv' hF (wn rfl) rfl rfl (R.load one82 (hF.ev rfl) hS (.t (.t .h)) (rfl)) fun a hF => ?_
                    refine sv' hF (wn rfl) rfl rfl (R.len Try.underlying82 (hF.ev rfl)) fun a hF => ?_
                    refine sv' hF (wn rfl) rfl rfl (R.lss (hF.ev rfl) (hF.ev rfl)) fun a hF => ?_
                    refine s0 ?_
                    refine then_n (hK38 _ _ ?_)
                    refine cD hF rfl (fun c8 => ?_) (fun c8 => ?_)
                    ·
                      refine wp_region_lit ?_
                      refine sv' hF (wn rfl) rfl rfl (R.move (hF.ev rfl)) fun a hF => ?_
                      refine sv' hF (wn rfl) rfl rfl (R.mulI (hF.ev rfl) (hF.ev rfl) (by omega)) fun a hF => ?_
                      refine sv' hF (wn rfl) rfl rfl (R.addI (hF.ev rfl) (hF.ev rfl) (by omega)) fun a hF => ?_
                      refine sv' hF (wn rfl) rfl rfl (R.as (u := .int .u8 ((1 : Nat) : Int)) (R.convert (k := .u8) Try.underlying3 Try.underlying5 (hF.ev rfl)) (rfl)) fun a hF => ?_
                      refine sv' hF (wn rfl) rfl rfl (R.assign (hF.ev rfl)) fun a hF => ?_
                      refine s0 ?_
                      exact then_n (hK36' _ _ ⟨hF.sub ⟨rfl, rfl, rfl, rfl, rfl, rfl, rfl, (by rw [if_pos (show j < 32 by omega)]; rfl), trivial⟩, hS.sel [0, 1, 2, 3, 4, 5, 6, 7, 8, 9] rfl rfl⟩)
                    ·
                      refine wp_skip ?_
                      exact then_n (hK36' _ _ ⟨hF.sub ⟨rfl, rfl, rfl, rfl, rfl, rfl, rfl, (by rw [if_neg (show ¬ j < 32 by omega)]; rfl), trivial⟩, hS.sel [0, 1, 2, 3, 4, 5, 6, 7, 8, 9] rfl rfl⟩)
                  ·
                    refine wp_exit (then_x (then_x (blk_hit ?_)))
                    refine blk_n ?_
                    refine then_n (hK30 _ _ ?_)
                    refine wp_region_lit ?_
                    refine sv' hF (wn rfl) rfl rfl (R.move (hF.ev rfl)) fun a hF => ?_
                    refine sv' hF (wn rfl) rfl rfl (R.addI (hF.ev rfl) (hF.ev rfl) (by omega)) fun a hF => ?_
                    refine sv' hF (wn rfl) rfl rfl (R.assign (hF.ev rfl)) fun a hF => ?_
                    refine s0 ?_
                    refine then_n (hKL3 (3 - 1) _ _ ?_ ?_)
                    · omega
                    · exact ⟨1, rfl, hF.sub ⟨rfl, rfl, rfl, rfl, rfl, rfl, trivial⟩, hS.sel [0, 1, 2, 3, 4, 5, 6, 7, 8, 9] rfl rfl, by omega⟩
              ·
                refine wp_skip ?_
                refine then_n (hK28 _ _ ?_)
                refine wp_seq_k fun K39 hK39 => ?_
                refine wp_block ?_
                refine wp_seq_k fun K40 hK40 => ?_
                refine wp_region_lit ?_
                refine sv' hF (wn rfl) rfl rfl (R.assign (hF.ev rfl)) fun a hF => ?_
                refine s0 ?_
                refine then_n (hK40 _ _ ?_)
                refine wp_block ?_
                refine wp_loop_N (fun g a w => ∃ (j : Nat), 72 - j = g ∧ Fr 217 [(2, .slice B k d), (3, .pointer (some ⟨b3, 0, none⟩)), (11, .slice A35 32 c35), (13, .slice (some ⟨b61, 0, none⟩) 3 3), (15, .slice A 3 e), (17, .int .i64 ((1 : Nat) : Int)), (18, .int .i64 ((j : Nat) : Int))] a ∧ St w0 [] [[(b3, Cel (wc m) 29)], s35, [(b61, Cel [.slice (some ⟨bx, 0, none⟩) 32 32, .slice (some ⟨bw, 0, none⟩) 32 32, .slice (some ⟨bz, 0, none⟩) 32 32] 82)], [(bx, Cel (byts (List.replicate 32 1)) 5)], [(bw, Cel (byts (List.replicate 32 12)) 5)], [(bz, Cel (byts (List.replicate 32 23)) 5)], s, g0, g1, g2] w ∧ (j ≤ 72)) (72 - 0) ?_ ?_
                · exact ⟨0, rfl, hF.sub ⟨rfl, rfl, rfl, rfl, rfl, rfl, rfl, trivial⟩, hS.sel [0, 1, 2, 3, 4, 5, 6, 7, 8, 9] rfl rfl, by omega⟩
                · rintro KL5 g a w ⟨j, hg5, hF, hS, hj⟩ hKL5
                  refine wp_seq_k fun K41 hK41 => ?_
                  refine wp_seq_k fun K42 hK42 => ?_
                  refine wp_region_lit ?_
                  refine sv' hF (wn rfl) rfl rfl (R.move (hF.ev rfl)) fun a hF => ?_
                  refine sv' hF (wn rfl) rfl rfl (R.move (hF.ev rfl)) fun a hF => ?_
                  refine sv' hF (wn rfl) rfl rfl (R.move (hF.ev rfl)) fun a hF => ?_
                  refine sv' hF (wn rfl) rfl rfl (R.indexO Try.underlying85 sz82 (hF.ev rfl) (Rd.ne (hO.rd hS (.t (.t (.t (.t (.t (.t .h))))))) (Nat.succ_pos _)) (hF.ev rfl) (by omega) (by omega)) fun a hF => ?_
                  refine sv' hF (wn rfl) rfl rfl (R.loadO one82 (hF.ev rfl) (hO.rd hS (.t (.t (.t (.t (.t (.t .h))))))) (rfl)) fun a hF => ?_
                  refine sv' hF (wn rfl) rfl rfl (R.len Try.underlying82 (hF.ev rfl)) fun a hF => ?_
                  refine sv' hF (wn rfl) rfl rfl (R.lss (hF.ev rfl) (hF.ev rfl)) fun a hF => ?_
                  refine s0 ?_
                  refine then_n (hK42 _ _ ?_)
                  refine cD hF rfl (fun c9 => ?_) (fun c9 => ?_)
                  ·
                    refine wp_skip ?_
                    refine then_n (hK41 _ _ ?_)
                    refine wp_seq_k fun K43 hK43 => ?_
                    refine wp_block ?_
                    refine wp_seq_k fun K44 hK44 => ?_
                    refine wp_region_lit ?_
                    refine sv' hF (wn rfl) rfl rfl (R.move (hF.ev rfl)) fun a hF => ?_
                    refine sv' hF (wn rfl) rfl rfl (R.mulI (hF.ev rfl) (hF.ev rfl) (by omega)) fun a hF => ?_
                    refine sv' hF (wn rfl) rfl rfl (R.addI (hF.ev rfl) (hF.ev rfl) (by omega)) fun a hF => ?_
                    refine sv' hF (wn rfl) rfl rfl (R.as (u := .int .u8 ((13 : Nat) : Int)) (R.convert (k := .u8) Try.underlying3 Try.underlying5 (hF.ev rfl)) (rfl)) fun a hF => ?_
                    refine sv' hF (wn rfl) rfl rfl (R.assign (hF.ev rfl)) fun a hF => ?_
                    refine s0 ?_
                    refine then_n (hK44 _ _ ?_)
                    refine wp_seq_k fun K45 hK45 => ?_
                    have hK45' : ∀ a w, (Fr 217 [(2, .slice B k d), (3, .pointer (some ⟨b3, 0, none⟩)), (11, .slice A35 32 c35), (13, .slice (some ⟨b61, 0, none⟩) 3 3), (15, .slice A 3 e), (17, .int .i64 ((1 : Nat) : Int)), (18, .int .i64 ((j : Nat) : Int)), (19, .int .u8 ((if j < 32 then 12 else 13 : Nat) : Int))] a ∧ St w0 [] [[(b3, Cel (wc m) 29)], s35, [(b61, Cel [.slice (some ⟨bx, 0, none⟩) 32 32, .slice (some ⟨bw, 0, none⟩) 32 32, .slice (some ⟨bz, 0, none⟩) 32 32] 82)], [(bx, Cel (byts (List.replicate 32 1)) 5)], [(bw, Cel (byts (List.replicate 32 12)) 5)], [(bz, Cel (byts (List.replicate 32 23)) 5)], s, g0, g1, g2] w) → K45 a w := by
                      rintro a w ⟨hF, hS⟩
                      refine hK45 _ _ ?_
                      refine wp_seq_k fun K46 hK46 => ?_
                      refine wp_region_lit ?_
                      refine sv' hF (wn rfl) rfl rfl (R.move (hF.ev rfl)) fun a hF => ?_
                      refine sv' hF (wn rfl) rfl rfl (R.move (hF.ev rfl)) fun a hF => ?_
                      refine sv' hF (wn rfl) rfl rfl (R.indexO Try.underlying85 sz82 (hF.ev rfl) (Rd.ne (hO.rd hS (.t (.t (.t (.t (.t (.t .h))))))) (Nat.succ_pos _)) (hF.ev rfl) (by omega) (by omega)) fun a hF => ?_
                      refine sv' hF (wn rfl) rfl rfl (R.loadO one82 (hF.ev rfl) (hO.rd hS (.t (.t (.t (.t (.t (.t .h))))))) (rfl)) fun a hF => ?_
                      refine sv' hF (wn rfl) rfl rfl (R.move (hF.ev rfl)) fun a hF => ?_
                      refine sv' hF (wn rfl) rfl rfl (R.indexO Try.underlying82 sz5 (hF.ev rfl) (Rd.ne (hg1.rd hS (.t (.t (.t (.t (.t (.t (.t (.t .h))))))))) (by rw [length_byts]; decide)) (hF.ev rfl) (by omega) (by omega)) fun a hF => ?_
                      refine sv' hF (wn rfl) rfl rfl (R.loadO one5 (hF.ev rfl) (hg1.rd hS (.t (.t (.t (.t (.t (.t (.t (.t .h))))))))) (rp_at 1 j _ (by omega) (by omega))) fun a hF => ?_
                      refine sv' hF (wn rfl) rfl rfl (R.move (hF.ev rfl)) fun a hF => ?_
                      refine sv' hF (wn rfl) rfl rfl (R.as (u := .bool false) (R.neq (p := ((if j < 32 then 11 * 1 + 1 else 11 * 1 + 2 : Nat) : Int)) (q := ((if j < 32 then 12 else 13 : Nat) : Int)) (hF.ev rfl) (hF.ev rfl)) (congrArg Value.bool (decide_eq_false (fun h => h rfl)))) fun a hF => ?_
                      refine sv' hF (wn rfl) rfl rfl (R.move (hF.ev rfl)) fun a hF => ?_
                      refine sv' hF (wy hF rfl rfl rfl) rfl rfl (R.move (hF.ev rfl)) fun a hF => ?_
                      refine sv' hF (wy hF rfl rfl rfl) rfl rfl (R.move (hF.ev rfl)) fun a hF => ?_
                      refine sv' hF (wy hF rfl rfl rfl) rfl rfl (R.move (hF.ev rfl)) fun a hF => ?_
                      refine sv' hF (wy hF rfl rfl rfl) rfl rfl (R.indexS Try.underlying85 sz82 (hF.ev rfl) (hF.ev rfl) (by omega) (by omega)) fun a hF => ?_
                      refine sv' hF (wy hF rfl rfl rfl) rfl rfl (R.load one82 (hF.ev rfl) hS (.t (.t .h)) (rfl)) fun a hF => ?_
                      refine sv' hF (wy hF rfl rfl rfl) rfl rfl (R.len Try.underlying82 (hF.ev rfl)) fun a hF => ?_
                      refine sv' hF (wy hF rfl rfl rfl) rfl rfl (R.lss (hF.ev rfl) (hF.ev rfl)) fun a hF => ?_
                      refine sv' hF (wy hF rfl rfl rfl) rfl rfl (R.move (hF.ev rfl)) fun a hF => ?_
                      refine hF.splitD (t := 142) rfl (fun h142 hF => ?_) (fun h142 hF => ?_)
                      ·
                        refine sv' hF (wy hF rfl rfl rfl) rfl rfl (R.move (hF.ev rfl)) fun a hF => ?_
                        refine sv' hF (wy hF rfl rfl rfl) rfl rfl (R.move (hF.ev rfl)) fun a hF => ?_
                        refine sv' hF (wy hF rfl rfl rfl) rfl rfl (R.indexS Try.underlying85 sz82 (hF.ev rfl) (hF.ev rfl) (by omega) (by omega)) fun a hF => ?_
                        refine sv' hF (wy hF rfl rfl rfl) rfl rfl (R.load one82 (hF.ev rfl) hS (.t (.t .h)) (rfl)) fun a hF => ?_
                        refine sv' hF (wy hF rfl rfl rfl) rfl rfl (R.move (hF.ev rfl)) fun a hF => ?_
                        refine sv' hF (wy hF rfl rfl rfl) rfl rfl (R.indexS Try.underlying82 sz5 (hF.ev rfl) (hF.ev rfl) (by omega) (by omega)) fun a hF => ?_
                        refine sv' hF (wy hF rfl rfl rfl) rfl rfl (R.load one5 (hF.ev rfl) hS (.t (.t (.t (.t .h)))) (rep_at 12 j _ (by omega) (by omega))) fun a hF => ?_
                        refine sv' hF (wy hF rfl rfl rfl) rfl rfl (R.move (hF.ev rfl)) fun a hF => ?_
                        refine sv' hF (wy hF rfl rfl rfl) rfl rfl (R.as (u := .bool false) (R.neq (p := ((12 : Nat) : Int)) (q := ((if j < 32 then 12 else 13 : Nat) : Int)) (hF.ev rfl) (hF.ev rfl)) (congrArg Value.bool (decide_eq_false (fun h => h (by rw [if_pos (show j < 32 by omega)]))))) fun a hF => ?_
                        refine sv' hF (wy hF rfl rfl rfl) rfl rfl (R.pickT (hF.ev rfl) (hF.ev rfl)) fun a hF => ?_
                        refine sv' hF (wn rfl) rfl rfl (R.pickF (hF.ev rfl) (hF.ev rfl)) fun a hF => ?_
                        refine s0 ?_
                        refine then_n (hK46 _ _ ?_)
                        refine cF hF rfl ?_
                        refine wp_skip ?_
                        refine blk_n ?_
                        refine then_n (hK43 _ _ ?_)
                        refine wp_region_lit ?_
                        refine sv' hF (wn rfl) rfl rfl (R.move (hF.ev rfl)) fun a hF => ?_
                        refine sv' hF (wn rfl) rfl rfl (R.addI (hF.ev rfl) (hF.ev rfl) (by omega)) fun a hF => ?_
                        refine sv' hF (wn rfl) rfl rfl (R.assign (hF.ev rfl)) fun a hF => ?_
                        refine s0 ?_
                        refine then_n (hKL5 (72 - (j + 1)) _ _ ?_ ?_)
                        · omega
                        · exact ⟨j + 1, rfl, hF.sub ⟨rfl, rfl, rfl, rfl, rfl, rfl, rfl, trivial⟩, hS.sel [0, 1, 2, 3, 4, 5, 6, 7, 8, 9] rfl rfl, by omega⟩
                      ·
                        refine sk hF (ws hF rfl rfl rfl rfl) rfl rfl fun a hF => ?_
                        refine sk hF (ws hF rfl rfl rfl rfl) rfl rfl fun a hF => ?_
                        refine sk hF (ws hF rfl rfl rfl rfl) rfl rfl fun a hF => ?_
                        refine sk hF (ws hF rfl rfl rfl rfl) rfl rfl fun a hF => ?_
                        refine sk hF (ws hF rfl rfl rfl rfl) rfl rfl fun a hF => ?_
                        refine sk hF (ws hF rfl rfl rfl rfl) rfl rfl fun a hF => ?_
                        refine sk hF (ws hF rfl rfl rfl rfl) rfl rfl fun a hF => ?_
                        refine sk hF (ws hF rfl rfl rfl rfl) rfl rfl fun a hF => ?_
                        refine sk hF (ws hF rfl rfl rfl rfl) rfl rfl fun a hF => ?_
                        refine sv' hF (wy hF rfl rfl rfl) rfl rfl (R.pickF (hF.ev rfl) (hF.ev rfl)) fun a hF => ?_
                        refine sv' hF (wn rfl) rfl rfl (R.pickF (hF.ev rfl) (hF.ev rfl)) fun a hF => ?_
                        refine s0 ?_
                        refine then_n (hK46 _ _ ?_)
                        refine cF hF rfl ?_
                        refine wp_skip ?_
                        refine blk_n ?_
                        refine then_n (hK43 _ _ ?_)
                        refine wp_region_lit ?_
                        refine sv' hF (wn rfl) rfl rfl (R.move (hF.ev rfl)) fun a hF => ?_
                        refine sv' hF (wn rfl) rfl rfl (R.addI (hF.ev rfl) (hF.ev rfl) (by omega)) fun a hF => ?_
                        refine sv' hF (wn rfl) rfl rfl (R.assign (hF.ev rfl)) fun a hF => ?_
                        refine s0 ?_
                        refine then_n (hKL5 (72 - (j + 1)) _ _ ?_ ?_)
                        · omega
                        · exact ⟨j + 1, rfl, hF.sub ⟨rfl, rfl, rfl, rfl, rfl, rfl, rfl, trivial⟩, hS.sel [0, 1, 2, 3, 4, 5, 6, 7, 8, 9] rfl rfl, by omega⟩
                    refine wp_seq_k fun K47 hK47 => ?_
                    refine wp_region_lit ?_
                    refine sv' hF (wn rfl) rfl rfl (R.move (hF.ev rfl)) fun a hF => ?_
                    refine sv' hF (wn rfl) rfl rfl (R.move (hF.ev rfl)) fun a hF => ?_
                    refine sv' hF (wn rfl) rfl rfl (R.move (hF.ev rfl)) fun a hF => ?_
                    refine sv' hF (wn rfl) rfl rfl (R.indexS Try.underlying85 sz82 (hF.ev rfl) (hF.ev rfl) (by omega) (by omega)) fun a hF => ?_
                    refine sv' hF (wn rfl) rfl rfl (R.load one82 (hF.ev rfl) hS (.t (.t .h)) (rfl)) fun a hF => ?_
                    refine sv' hF (wn rfl) rfl rfl (R.len Try.underlying82 (hF.ev rfl)) fun a hF => ?_
                    refine sv' hF (wn rfl) rfl rfl (R.lss (hF.ev rfl) (hF.ev rfl)) fun a hF => ?_
                    refine s0 ?_
                    refine then_n (hK47 _ _ ?_)
                    refine cD hF rfl (fun c12 => ?_) (fun c12 => ?_)
                    ·
                      refine wp_region_lit ?_
                      refine sv' hF (wn rfl) rfl rfl (R.move (hF.ev rfl)) fun a hF => ?_
                      refine sv' hF (wn rfl) rfl rfl (R.mulI (hF.ev rfl) (hF.ev rfl) (by omega)) fun a hF => ?_
                      refine sv' hF (wn rfl) rfl rfl (R.addI (hF.ev rfl) (hF.ev rfl) (by omega)) fun a hF => ?_
                      refine sv' hF (wn rfl) rfl rfl (R.as (u := .int .u8 ((12 : Nat) : Int)) (R.convert (k := .u8) Try.underlying3 Try.underlying5 (hF.ev rfl)) (rfl)) fun a hF => ?_
                      refine sv' hF (wn rfl) rfl rfl (R.assign (hF.ev rfl)) fun a hF => ?_
                      refine s0 ?_
                      exact then_n (hK45' _ _ ⟨hF.sub ⟨rfl, rfl, rfl, rfl, rfl, rfl, rfl, (by rw [if_pos (show j < 32 by omega)]; rfl), trivial⟩, hS.sel [0, 1, 2, 3, 4, 5, 6, 7, 8, 9] rfl rfl⟩)
                    ·
                      refine wp_skip ?_
                      exact then_n (hK45' _ _ ⟨hF.sub ⟨rfl, rfl, rfl, rfl, rfl, rfl, rfl, (by rw [if_neg (show ¬ j < 32 by omega)]; rfl), trivial⟩, hS.sel [0, 1, 2, 3, 4, 5, 6, 7, 8, 9] rfl rfl⟩)
                  ·
                    refine wp_exit (then_x (then_x (blk_hit ?_)))
                    refine blk_n ?_
                    refine then_n (hK39 _ _ ?_)
                    refine wp_region_lit ?_
                    refine sv' hF (wn rfl) rfl rfl (R.move (hF.ev rfl)) fun a hF => ?_
                    refine sv' hF (wn rfl) rfl rfl (R.addI (hF.ev rfl) (hF.ev rfl) (by omega)) fun a hF => ?_
                    refine sv' hF (wn rfl) rfl rfl (R.assign (hF.ev rfl)) fun a hF => ?_
                    refine s0 ?_
                    refine then_n (hKL3 (3 - 2) _ _ ?_ ?_)
                    · omega
                    · exact ⟨2, rfl, hF.sub ⟨rfl, rfl, rfl, rfl, rfl, rfl, trivial⟩, hS.sel [0, 1, 2, 3, 4, 5, 6, 7, 8, 9] rfl rfl, by omega⟩
              ·
                refine wp_skip ?_
                refine then_n (hK28 _ _ ?_)
                refine wp_seq_k fun K48 hK48 => ?_
                refine wp_block ?_
                refine wp_seq_k fun K49 hK49 => ?_
                refine wp_region_lit ?_
                refine sv' hF (wn rfl) rfl rfl (R.assign (hF.ev rfl)) fun a hF => ?_
                refine s0 ?_
                refine then_n (hK49 _ _ ?_)
                refine wp_block ?_
                refine wp_loop_N (fun g a w => ∃ (j : Nat), 72 - j = g ∧ Fr 217 [(2, .slice B k d), (3, .pointer (some ⟨b3, 0, none⟩)), (11, .slice A35 32 c35), (13, .slice (some ⟨b61, 0, none⟩) 3 3), (15, .slice A 3 e), (17, .int .i64 ((2 : Nat) : Int)), (18, .int .i64 ((j : Nat) : Int))] a ∧ St w0 [] [[(b3, Cel (wc m) 29)], s35, [(b61, Cel [.slice (some ⟨bx, 0, none⟩) 32 32, .slice (some ⟨bw, 0, none⟩) 32 32, .slice (some ⟨bz, 0, none⟩) 32 32] 82)], [(bx, Cel (byts (List.replicate 32 1)) 5)], [(bw, Cel (byts (List.replicate 32 12)) 5)], [(bz, Cel (byts (List.replicate 32 23)) 5)], s, g0, g1, g2] w ∧ (j ≤ 72)) (72 - 0) ?_ ?_
                · exact ⟨0, rfl, hF.sub ⟨rfl, rfl, rfl, rfl, rfl, rfl, rfl, trivial⟩, hS.sel [0, 1, 2, 3, 4, 5, 6, 7, 8, 9] rfl rfl, by omega⟩
                · rintro KL6 g a w ⟨j, hg6, hF, hS, hj⟩ hKL6
                  refine wp_seq_k fun K50 hK50 => ?_
                  refine wp_seq_k fun K51 hK51 => ?_
                  refine wp_region_lit ?_
                  refine sv' hF (wn rfl) rfl rfl (R.move (hF.ev rfl)) fun a hF => ?_
                  refine sv' hF (wn rfl) rfl rfl (R.move (hF.ev rfl)) fun a hF => ?_
                  refine sv' hF (wn rfl) rfl rfl (R.move (hF.ev rfl)) fun a hF => ?_
                  refine sv' hF (wn rfl) rfl rfl (R.indexO Try.underlying85 sz82 (hF.ev rfl) (Rd.ne (hO.rd hS (.t (.t (.t (.t (.t (.t .h))))))) (Nat.succ_pos _)) (hF.ev rfl) (by omega) (by omega)) fun a hF => ?_
                  refine sv' hF (wn rfl) rfl rfl (R.loadO one82 (hF.ev rfl) (hO.rd hS (.t (.t (.t (.t (.t (.t .h))))))) (rfl)) fun a hF => ?_
                  refine sv' hF (wn rfl) rfl rfl (R.len Try.underlying82 (hF.ev rfl)) fun a hF => ?_
                  refine sv' hF (wn rfl) rfl rfl (R.lss (hF.ev rfl) (hF.ev rfl)) fun a hF => ?_
                  refine s0 ?_
                  refine then_n (hK51 _ _ ?_)
                  refine cD hF rfl (fun c13 => ?_) (fun c13 => ?_)
                  ·
                    refine wp_skip ?_
                    refine then_n (hK50 _ _ ?_)
                    refine wp_seq_k fun K52 hK52 => ?_
                    refine wp_block ?_
                    refine wp_seq_k fun K53 hK53 => ?_
                    refine wp_region_lit ?_
                    refine sv' hF (wn rfl) rfl rfl (R.move (hF.ev rfl)) fun a hF => ?_
                    refine sv' hF (wn rfl) rfl rfl (R.mulI (hF.ev rfl) (hF.ev rfl) (by omega)) fun a hF => ?_
                    refine sv' hF (wn rfl) rfl rfl (R.addI (hF.ev rfl) (hF.ev rfl) (by omega)) fun a hF => ?_
                    refine sv' hF (wn rfl) rfl rfl (R.as (u := .int .u8 ((24 : Nat) : Int)) (R.convert (k := .u8) Try.underlying3 Try.underlying5 (hF.ev rfl)) (rfl)) fun a hF => ?_
                    refine sv' hF (wn rfl) rfl rfl (R.assign (hF.ev rfl)) fun a hF => ?_
                    refine s0 ?_
                    refine then_n (hK53 _ _ ?_)
                    refine wp_seq_k fun K54 hK54 => ?_
                    have hK54' : ∀ a w, (Fr 217 [(2, .slice B k d), (3, .pointer (some ⟨b3, 0, none⟩)), (11, .slice A35 32 c35), (13, .slice (some ⟨b61, 0, none⟩) 3 3), (15, .slice A 3 e), (17, .int .i64 ((2 : Nat) : Int)), (18, .int .i64 ((j : Nat) : Int)), (19, .int .u8 ((if j < 32 then 23 else 24 : Nat) : Int))] a ∧ St w0 [] [[(b3, Cel (wc m) 29)], s35, [(b61, Cel [.slice (some ⟨bx, 0, none⟩) 32 32, .slice (some ⟨bw, 0, none⟩) 32 32, .slice (some ⟨bz, 0, none⟩) 32 32] 82)], [(bx, Cel (byts (List.replicate 32 1)) 5)], [(bw, Cel (byts (List.replicate 32 12)) 5)], [(bz, Cel (byts (List.replicate 32 23)) 5)], s, g0, g1, g2] w) → K54 a w := by
                      rintro a w ⟨hF, hS⟩
                      refine hK54 _ _ ?_
                      refine wp_seq_k fun K55 hK55 => ?_
                      refine wp_region_lit ?_
                      refine sv' hF (wn rfl) rfl rfl (R.move (hF.ev rfl)) fun a hF => ?_
                      refine sv' hF (wn rfl) rfl rfl (R.move (hF.ev rfl)) fun a hF => ?_
                      refine sv' hF (wn rfl) rfl rfl (R.indexO Try.underlying85 sz82 (hF.ev rfl) (Rd.ne (hO.rd hS (.t (.t (.t (.t (.t (.t .h))))))) (Nat.succ_pos _)) (hF.ev rfl) (by omega) (by omega)) fun a hF => ?_
                      refine sv' hF (wn rfl) rfl rfl (R.loadO one82 (hF.ev rfl) (hO.rd hS (.t (.t (.t (.t (.t (.t .h))))))) (rfl)) fun a hF => ?_
                      refine sv' hF (wn rfl) rfl rfl (R.move (hF.ev rfl)) fun a hF => ?_
                      refine sv' hF (wn rfl) rfl rfl (R.indexO Try.underlying82 sz5 (hF.ev rfl) (Rd.ne (hg2.rd hS (.t (.t (.t (.t (.t (.t (.t (.t (.t .h)))))))))) (by rw [length_byts]; decide)) (hF.ev rfl) (by omega) (by omega)) fun a hF => ?_
                      refine sv' hF (wn rfl) rfl rfl (R.loadO one5 (hF.ev rfl) (hg2.rd hS (.t (.t (.t (.t (.t (.t (.t (.t (.t .h)))))))))) (rp_at 2 j _ (by omega) (by omega))) fun a hF => ?_
                      refine sv' hF (wn rfl) rfl rfl (R.move (hF.ev rfl)) fun a hF => ?_
                      refine sv' hF (wn rfl) rfl rfl (R.as (u := .bool false) (R.neq (p := ((if j < 32 then 11 * 2 + 1 else 11 * 2 + 2 : Nat) : Int)) (q := ((if j < 32 then 23 else 24 : Nat) : Int)) (hF.ev rfl) (hF.ev rfl)) (congrArg Value.bool (decide_eq_false (fun h => h rfl)))) fun a hF => ?_
                      refine sv' hF (wn rfl) rfl rfl (R.move (hF.ev rfl)) fun a hF => ?_
                      refine sv' hF (wy hF rfl rfl rfl) rfl rfl (R.move (hF.ev rfl)) fun a hF => ?_
                      refine sv' hF (wy hF rfl rfl rfl) rfl rfl (R.move (hF.ev rfl)) fun a hF => ?_
                      refine sv' hF (wy hF rfl rfl rfl) rfl rfl (R.move (hF.ev rfl)) fun a hF => ?_
                      refine sv' hF (wy hF rfl rfl rfl) rfl rfl (R.indexS Try.underlying85 sz82 (hF.ev rfl) (hF.ev rfl) (by omega) (by omega)) fun a hF => ?_
                      refine sv' hF (wy hF rfl rfl rfl) rfl rfl (R.load one82 (hF.ev rfl) hS (.t (.t .h)) (rfl)) fun a hF => ?_
                      refine sv' hF (wy hF rfl rfl rfl) rfl rfl (R.len Try.underlying82 (hF.ev rfl)) fun a hF => ?_
                      refine sv' hF (wy hF rfl rfl rfl) rfl rfl (R.lss (hF.ev rfl) (hF.ev rfl)) fun a hF => ?_
                      refine sv' hF (wy hF rfl rfl rfl) rfl rfl (R.move (hF.ev rfl)) fun a hF => ?_
                      refine hF.splitD (t := 142) rfl (fun h142 hF => ?_) (fun h142 hF => ?_)
                      ·
                        refine sv' hF (wy hF rfl rfl rfl) rfl rfl (R.move (hF.ev rfl)) fun a hF => ?_
                        refine sv' hF (wy hF rfl rfl rfl) rfl rfl (R.move (hF.ev rfl)) fun a hF => ?_
                        refine sv' hF (wy hF rfl rfl rfl) rfl rfl (R.indexS Try.underlying85 sz82 (hF.ev rfl) (hF.ev rfl) (by omega) (by omega)) fun a hF => ?_
                        refine sv' hF (wy hF rfl rfl rfl) rfl rfl (R.load one82 (hF.ev rfl) hS (.t (.t .h)) (rfl)) fun a hF => ?_
                        refine sv' hF (wy hF rfl rfl rfl) rfl rfl (R.move (hF.ev rfl)) fun a hF => ?_
                        refine sv' hF (wy hF rfl rfl rfl) rfl rfl (R.indexS Try.underlying82 sz5 (hF.ev rfl) (hF.ev rfl) (by omega) (by omega)) fun a hF => ?_
                        refine sv' hF (wy hF rfl rfl rfl) rfl rfl (R.load one5 (hF.ev rfl) hS (.t (.t (.t (.t (.t .h))))) (rep_at 23 j _ (by omega) (by omega))) fun a hF => ?_
                        refine sv' hF (wy hF rfl rfl rfl) rfl rfl (R.move (hF.ev rfl)) fun a hF => ?_
                        refine sv' hF (wy hF rfl rfl rfl) rfl rfl (R.as (u := .bool false) (R.neq (p := ((23 : Nat) : Int)) (q := ((if j < 32 then 23 else 24 : Nat) : Int)) (hF.ev rfl) (hF.ev rfl)) (congrArg Value.bool (decide_eq_false (fun h => h (by rw [if_pos (show j < 32 by omega)]))))) fun a hF => ?_
                        refine sv' hF (wy hF rfl rfl rfl) rfl rfl (R.pickT (hF.ev rfl) (hF.ev rfl)) fun a hF => ?_
                        refine sv' hF (wn rfl) rfl rfl (R.pickF (hF.ev rfl) (hF.ev rfl)) fun a hF => ?_
                        refine s0 ?_
                        refine then_n (hK55 _ _ ?_)
                        refine cF hF rfl ?_
                        refine wp_skip ?_
                        refine blk_n ?_
                        refine then_n (hK52 _ _ ?_)
                        refine wp_region_lit ?_
                        refine sv' hF (wn rfl) rfl rfl (R.move (hF.ev rfl)) fun a hF => ?_
                        refine sv' hF (wn rfl) rfl rfl (R.addI (hF.ev rfl) (hF.ev rfl) (by omega)) fun a hF => ?_
                        refine sv' hF (wn rfl) rfl rfl (R.assign (hF.ev rfl)) fun a hF => ?_
                        refine s0 ?_
                        refine then_n (hKL6 (72 - (j + 1)) _ _ ?_ ?_)
                        · omega
                        · exact ⟨j + 1, rfl, hF.sub ⟨rfl, rfl, rfl, rfl, rfl, rfl, rfl, trivial⟩, hS.sel [0, 1, 2, 3, 4, 5, 6, 7, 8, 9] rfl rfl, by omega⟩
                      ·
                        refine sk hF (ws hF rfl rfl rfl rfl) rfl rfl fun a hF => ?_
                        refine sk hF (ws hF rfl rfl rfl rfl) rfl rfl fun a hF => ?_
                        refine sk hF (ws hF rfl rfl rfl rfl) rfl rfl fun a hF => ?_
                        refine sk hF (ws hF rfl rfl rfl rfl) rfl rfl fun a hF => ?_
                        refine sk hF (ws hF rfl rfl rfl rfl) rfl rfl fun a hF => ?_
                        refine sk hF (ws hF rfl rfl rfl rfl) rfl rfl fun a hF => ?_
                        refine sk hF (ws hF rfl rfl rfl rfl) rfl rfl fun a hF => ?_
                        refine sk hF (ws hF rfl rfl rfl rfl) rfl rfl fun a hF => ?_
                        refine sk hF (ws hF rfl rfl rfl rfl) rfl rfl fun a hF => ?_
                        refine sv' hF (wy hF rfl rfl rfl) rfl rfl (R.pickF (hF.ev rfl) (hF.ev rfl)) fun a hF => ?_
                        refine sv' hF (wn rfl) rfl rfl (R.pickF (hF.ev rfl) (hF.ev rfl)) fun a hF => ?_
                        refine s0 ?_
                        refine then_n (hK55 _ _ ?_)
                        refine cF hF rfl ?_
                        refine wp_skip ?_
                        refine blk_n ?_
                        refine then_n (hK52 _ _ ?_)
                        refine wp_region_lit ?_
                        refine sv' hF (wn rfl) rfl rfl (R.move (hF.ev rfl)) fun a hF => ?_
                        refine sv' hF (wn rfl) rfl rfl (R.addI (hF.ev rfl) (hF.ev rfl) (by omega)) fun a hF => ?_
                        refine sv' hF (wn rfl) rfl rfl (R.assign (hF.ev rfl)) fun a hF => ?_
                        refine s0 ?_
                        refine then_n (hKL6 (72 - (j + 1)) _ _ ?_ ?_)
                        · omega
                        · exact ⟨j + 1, rfl, hF.sub ⟨rfl, rfl, rfl, rfl, rfl, rfl, rfl, trivial⟩, hS.sel [0, 1, 2, 3, 4, 5, 6, 7, 8, 9] rfl rfl, by omega⟩
                    refine wp_seq_k fun K56 hK56 => ?_
                    refine wp_region_lit ?_
                    refine sv' hF (wn rfl) rfl rfl (R.move (hF.ev rfl)) fun a hF => ?_
                    refine sv' hF (wn rfl) rfl rfl (R.move (hF.ev rfl)) fun a hF => ?_
                    refine sv' hF (wn rfl) rfl rfl (R.move (hF.ev rfl)) fun a hF => ?_
                    refine sv' hF (wn rfl) rfl rfl (R.indexS Try.underlying85 sz82 (hF.ev rfl) (hF.ev rfl) (by omega) (by omega)) fun a hF => ?_
                    refine sv' hF (wn rfl) rfl rfl (R.load one82 (hF.ev rfl) hS (.t (.t .h)) (rfl)) fun a hF => ?_
                    refine sv' hF (wn rfl) rfl rfl (R.len Try.underlying82 (hF.ev rfl)) fun a hF => ?_
                    refine sv' hF (wn rfl) rfl rfl (R.lss (hF.ev rfl) (hF.ev rfl)) fun a hF => ?_
                    refine s0 ?_
                    refine then_n (hK56 _ _ ?_)
                    refine cD hF rfl (fun c16 => ?_) (fun c16 => ?_)
                    ·
                      refine wp_region_lit ?_
                      refine sv' hF (wn rfl) rfl rfl (R.move (hF.ev rfl)) fun a hF => ?_
                      refine sv' hF (wn rfl) rfl rfl (R.mulI (hF.ev rfl) (hF.ev rfl) (by omega)) fun a hF => ?_
                      refine sv' hF (wn rfl) rfl rfl (R.addI (hF.ev rfl) (hF.ev rfl) (by omega)) fun a hF => ?_
                      refine sv' hF (wn rfl) rfl rfl (R.as (u := .int .u8 ((23 : Nat) : Int)) (R.convert (k := .u8) Try.underlying3 Try.underlying5 (hF.ev rfl)) (rfl)) fun a hF => ?_
                      refine sv' hF (wn rfl) rfl rfl (R.assign (hF.ev rfl)) fun a hF => ?_
                      refine s0 ?_
                      exact then_n (hK54' _ _ ⟨hF.sub ⟨rfl, rfl, rfl, rfl, rfl, rfl, rfl, (by rw [if_pos (show j < 32 by omega)]; rfl), trivial⟩, hS.sel [0, 1, 2, 3, 4, 5, 6, 7, 8, 9] rfl rfl⟩)
                    ·
                      refine wp_skip ?_
                      exact then_n (hK54' _ _ ⟨hF.sub ⟨rfl, rfl, rfl, rfl, rfl, rfl, rfl, (by rw [if_neg (show ¬ j < 32 by omega)]; rfl), trivial⟩, hS.sel [0, 1, 2, 3, 4, 5, 6, 7, 8, 9] rfl rfl⟩)
                  ·
                    refine wp_exit (then_x (then_x (blk_hit ?_)))
                    refine blk_n ?_
                    refine then_n (hK48 _ _ ?_)
                    refine wp_region_lit ?_
                    refine sv' hF (wn rfl) rfl rfl (R.move (hF.ev rfl)) fun a hF => ?_
                    refine sv' hF (wn rfl) rfl rfl (R.addI (hF.ev rfl) (hF.ev rfl) (by omega)) fun a hF => ?_
                    refine sv' hF (wn rfl) rfl rfl (R.assign (hF.ev rfl)) fun a hF => ?_
                    refine s0 ?_
                    refine then_n (hKL3 (3 - 3) _ _ ?_ ?_)
                    · omega
                    · exact ⟨3, rfl, hF.sub ⟨rfl, rfl, rfl, rfl, rfl, rfl, trivial⟩, hS.sel [0, 1, 2, 3, 4, 5, 6, 7, 8, 9] rfl rfl, by omega⟩
            ·
              obtain rfl : i = 3 := by omega
              refine wp_exit (then_x (then_x (blk_hit ?_)))
              refine then_n (hK26 _ _ ?_)
              refine wp_seq_k fun K57 hK57 => ?_
              refine wp_region_lit ?_
              refine sv' hF (wn rfl) rfl rfl (R.loadW agg29 (hF.ev rfl) hS .h sz29 (rfl)) fun a hF => ?_
              refine so (wn rfl) (O.call rfl rfl hF ent65 (hF.evs rfl) hS (bytes32_calls m _) fun v s155 a w hR hF hS => ?_)
              obtain ⟨bq, rfl, rfl⟩ := hR
              refine sv' hF (wn rfl) rfl rfl (R.assign (hF.ev rfl)) fun a hF => ?_
              refine s0 ?_
              refine then_n (hK57 _ _ ?_)
              refine wp_seq_k fun K58 hK58 => ?_
              refine wp_region_lit ?_
              refine so (wn rfl) (O.buildSlice (l := []) rfl rfl hF Try.underlying82 inf5 rfl rfl (hF.evp rfl) (by decide) rfl hS fun b156 a w hF hS => ?_)
              refine sv' hF (wn rfl) rfl rfl (R.move (hF.ev rfl)) fun a hF => ?_
              refine so (wn rfl) (O.appendO rfl rfl hF Try.underlying82 inf5 rfl rfl (by decide) (hF.ev rfl) (hF.ev rfl) hS (own_nilB b156) (fun _ => .h) (hB.old hS) (by rw [length_byts, Nat.mul_one]; exact hk) (byts_one xs) (by unfold maxLen; omega) (by omega) fun A158 c158 s158 a w hO158 hF hS => ?_)
              rw [Nat.zero_add] at hF hO158
              refine so (wn rfl) (O.callK rfl rfl hF ent69 (hF.evs rfl) hS (growO_calls A158 k c158 5 77 xs s158 w hO158 (hS.own1 .h) (by omega)) (fun _ => .h) fun v s159 a w hR hF hS => ?_)
              obtain ⟨A21, c21, rfl, hO21⟩ := hR
              refine sv' hF (wn rfl) rfl rfl (R.assign (hF.ev rfl)) fun a hF => ?_
              refine s0 ?_
              refine then_n (hK58 _ _ ?_)
              refine wp_seq_k fun K59 hK59 => ?_
              refine wp_region_lit ?_
              refine sv' hF (wn rfl) rfl rfl (R.move (hF.ev rfl)) fun a hF => ?_
              refine sv' hF (wn rfl) rfl rfl (R.move (hF.ev rfl)) fun a hF => ?_
              refine sv' hF (wn rfl) rfl rfl (R.len Try.underlying82 (hF.ev rfl)) fun a hF => ?_
              refine sv' hF (wn rfl) rfl rfl (R.sliceHi (p := ((k : Nat) : Int)) Try.underlying82 (hF.ev rfl) (hF.ev rfl) (by omega) (by have := hO21.2.1; omega) _ sz5) fun a hF => ?_
              rw [Int.toNat_natCast] at hF
              refine sv' hF (wn rfl) rfl rfl (R.assign (hF.ev rfl)) fun a hF => ?_
              refine s0 ?_
              refine then_n (hK59 _ _ ?_)
              refine wp_seq_k fun K60 hK60 => ?_
              obtain ⟨gf, rest, rfl, rfl, o3, o4⟩ := own_open hO21 (by omega)
              refine wp_region_lit ?_
              refine sv' hF (wn rfl) rfl rfl (R.move (hF.ev rfl)) fun a hF => ?_
              refine so (wn rfl) (O.call rfl rfl hF ent70 (hF.evs rfl) hS (read_calls (some ⟨gf, 0, none⟩) k c21 xs w (rd_pre (rd_left (Rd.own0 hS .h))) hk hBy) fun v s166 a w hR hF hS => ?_)
              obtain ⟨rfl, rfl⟩ := hR
              refine sv' hF (wn rfl) rfl rfl (R.move (hF.ev rfl)) fun a hF => ?_
              refine sv' hF (wn rfl) rfl rfl (R.extract (hF.ev rfl) rfl) fun a hF => ?_
              refine sv' hF (wn rfl) rfl rfl (R.extract (hF.ev rfl) rfl) fun a hF => ?_
              refine so (wn rfl) (O.alloc rfl rfl hF ze29 rfl hS fun b23 a w hF hS => ?_)
              refine so (wn rfl) (O.storeW sz29 (hF.ev rfl) (hF.ev rfl) (rfl) rfl (by simp [Value.oneCell']) hS .h (rfl) fun w hS => ?_)
              refine sv' hF (wn rfl) rfl rfl (R.assign (hF.ev rfl)) fun a hF => ?_
              refine s0 ?_
              refine then_n (hK60 _ _ ?_)
              refine wp_seq_k fun K61 hK61 => ?_
              refine wp_region_lit ?_
              refine sv' hF (wn rfl) rfl rfl (R.move (hF.ev rfl)) fun a hF => ?_
              refine so (wn rfl) (O.call rfl rfl hF ent71 (hF.evs rfl) hS (rread_calls B k d xs w (hB.old hS) hk hBy) fun v s171 a w hR hF hS => ?_)
              obtain ⟨rfl, rfl⟩ := hR
              refine sv' hF (wn rfl) rfl rfl (R.move (hF.ev rfl)) fun a hF => ?_
              refine sv' hF (wn rfl) rfl rfl (R.extract (hF.ev rfl) rfl) fun a hF => ?_
              refine sv' hF (wn rfl) rfl rfl (R.extract (hF.ev rfl) rfl) fun a hF => ?_
              refine so (wn rfl) (O.alloc rfl rfl hF ze29 rfl hS fun b25 a w hF hS => ?_)
              refine so (wn rfl) (O.storeW sz29 (hF.ev rfl) (hF.ev rfl) (rfl) rfl (by simp [Value.oneCell']) hS .h (rfl) fun w hS => ?_)
              refine sv' hF (wn rfl) rfl rfl (R.assign (hF.ev rfl)) fun a hF => ?_
              refine s0 ?_
              refine then_n (hK61 _ _ ?_)
              refine wp_seq_k fun K62 hK62 => ?_
              refine wp_seq_k fun K63 hK63 => ?_
              refine wp_region_lit ?_
              refine sv' hF (wn rfl) rfl rfl (R.move (hF.ev rfl)) fun a hF => ?_
              refine sv' hF (wn rfl) rfl rfl (R.move (hF.ev rfl)) fun a hF => ?_
              refine so (wn rfl) (O.call rfl rfl hF ent67 (hF.evs rfl) hS (bytesAlike_calls (some ⟨bq, 0, none⟩) A35 32 c35 32 (wb m 32) w (Rd.own0 hS (.t (.t (.t (.t (.t .h)))))) (hO35.rd hS (.t (.t (.t (.t (.t (.t (.t .h)))))))) (length_wb _ _)) fun v s176 a w hR hF hS => ?_)
              obtain ⟨rfl, rfl⟩ := hR
              refine sv' hF (wn rfl) rfl rfl (R.as (u := .bool false) (R.not (b := true) (hF.ev rfl)) (rfl)) fun a hF => ?_
              refine sv' hF (wn rfl) rfl rfl (R.move (hF.ev rfl)) fun a hF => ?_
              refine sv' hF (wy hF rfl rfl rfl) rfl rfl (R.loadW agg29 (hF.ev rfl) hS (.t (.t (.t .h))) sz29 (rfl)) fun a hF => ?_
              refine sv' hF (wy hF rfl rfl rfl) rfl rfl (R.loadW agg29 (hF.ev rfl) hS (.t .h) sz29 (rfl)) fun a hF => ?_
              refine sv' hF (wy hF rfl rfl rfl) rfl rfl (R.as (u := .bool false) (R.neqW (x := readN xs) (y := readN xs) (hF.ev rfl) (hF.ev rfl) (readN_lt hBy) (readN_lt hBy)) (congrArg Value.bool (decide_eq_false (fun h => h (rfl))))) fun a hF => ?_
              refine sv' hF (wn rfl) rfl rfl (R.pickF (hF.ev rfl) (hF.ev rfl)) fun a hF => ?_
              refine sv' hF (wn rfl) rfl rfl (R.move (hF.ev rfl)) fun a hF => ?_
              refine sv' hF (wy hF rfl rfl rfl) rfl rfl (R.move (hF.ev rfl)) fun a hF => ?_
              refine sv' hF (wy hF rfl rfl rfl) rfl rfl (R.move (hF.ev rfl)) fun a hF => ?_
              refine sv' hF (wy hF rfl rfl rfl) rfl rfl (R.as (u := .bool false) (R.neq (p := if xs.length = 32 then 0 else 20) (q := if xs.length = 32 then 0 else 20) (hF.ev rfl) (hF.ev rfl)) (congrArg Value.bool (decide_eq_false (fun h => h (rfl))))) fun a hF => ?_
              refine sv' hF (wn rfl) rfl rfl (R.pickF (hF.ev rfl) (hF.ev rfl)) fun a hF => ?_
              refine sv' hF (wn rfl) rfl rfl (R.move (hF.ev rfl)) fun a hF => ?_
              refine sv' hF (wy hF rfl rfl rfl) rfl rfl (R.move (hF.ev rfl)) fun a hF => ?_
              refine so (wy hF rfl rfl rfl) (O.buildSlice (l := []) rfl rfl hF Try.underlying82 inf5 rfl rfl (hF.evp rfl) (by decide) rfl hS fun b190 a w hF hS => ?_)
              refine sv' hF (wy hF rfl rfl rfl) rfl rfl (R.move (hF.ev rfl)) fun a hF => ?_
              refine so (wy hF rfl rfl rfl) (O.appendO rfl rfl hF Try.underlying82 inf5 rfl rfl (by decide) (hF.ev rfl) (hF.ev rfl) hS (own_nilB b190) (fun _ => .h) (hB.old hS) (by rw [length_byts, Nat.mul_one]; exact hk) (byts_one xs) (by unfold maxLen; omega) (by omega) fun A192 c192 s192 a w hO192 hF hS => ?_)
              rw [Nat.zero_add] at hF hO192
              refine so (wy hF rfl rfl rfl) (O.callK rfl rfl hF ent69 (hF.evs rfl) hS (growO_calls A192 k c192 5 77 xs s192 w hO192 (hS.own1 .h) (by omega)) (fun _ => .h) fun v s193 a w hR hF hS => ?_)
              obtain ⟨A193, c193, rfl, hO193⟩ := hR
              refine so (wy hF rfl rfl rfl) (O.call rfl rfl hF ent67 (hF.evs rfl) hS (bytesAlike_calls (some ⟨gf, 0, none⟩) A193 c21 c193 (k + 5) (xs ++ List.replicate 5 77) w (rd_left (Rd.own0 hS (.t (.t (.t (.t (.t (.t .h)))))))) (hO193.rd hS .h) (by rw [List.length_append, List.length_replicate, hk])) fun v s194 a w hR hF hS => ?_)
              obtain ⟨rfl, rfl⟩ := hR
              refine sv' hF (wy hF rfl rfl rfl) rfl rfl (R.as (u := .bool false) (R.not (b := true) (hF.ev rfl)) (rfl)) fun a hF => ?_
              refine sv' hF (wn rfl) rfl rfl (R.pickF (hF.ev rfl) (hF.ev rfl)) fun a hF => ?_
              refine s0 ?_
              refine then_n (hK63 _ _ ?_)
              refine cF hF rfl ?_
              refine wp_skip ?_
              refine then_n (hK62 _ _ ?_)
              refine wp_seq_k fun K64 hK64 => ?_
              rw [← byts_append, List.append_assoc] at hS
              refine wp_region_lit ?_
              refine sv' hF (wn rfl) rfl rfl (R.move (hF.ev rfl)) fun a hF => ?_
              refine so (wn rfl) (O.callK rfl rfl hF ent68 (hF.evs rfl) hS (fill_calls gf k c21 xs (byts (List.replicate 5 77) ++ rest) 1 w (hS.own1 (.t (.t (.t (.t (.t (.t (.t .h)))))))) hk (by omega)) (fun _ => (.t (.t (.t (.t (.t (.t (.t .h)))))))) fun v s198 a w hR hF hS => ?_)
              obtain rfl := hR
              refine s0 ?_
              refine then_n (hK64 _ _ ?_)
              refine wp_seq_k fun K65 hK65 => ?_
              refine wp_region_lit ?_
              refine sv' hF (wn rfl) rfl rfl (R.move (hF.ev rfl)) fun a hF => ?_
              refine so (wn rfl) (O.call rfl rfl hF ent70 (hF.evs rfl) hS (read_calls (some ⟨gf, 0, none⟩) k c21 (List.replicate xs.length 1) w (rd_left (Rd.own0 hS (.t (.t (.t (.t (.t (.t (.t .h))))))))) (by rw [List.length_replicate, hk]) (byt_rep _ (by decide))) fun v s201 a w hR hF hS => ?_)
              obtain ⟨rfl, rfl⟩ := hR
              refine sv' hF (wn rfl) rfl rfl (R.move (hF.ev rfl)) fun a hF => ?_
              refine sv' hF (wn rfl) rfl rfl (R.extract (hF.ev rfl) rfl) fun a hF => ?_
              refine sv' hF (wn rfl) rfl rfl (R.extract (hF.ev rfl) rfl) fun a hF => ?_
              refine so (wn rfl) (O.storeW sz29 (hF.ev rfl) (hF.ev rfl) (rfl) rfl (by simp [Value.oneCell']) hS (.t (.t (.t (.t (.t (.t .h)))))) (rfl) fun w hS => ?_)
              refine sv' hF (wn rfl) rfl rfl (R.assign (hF.ev rfl)) fun a hF => ?_
              refine s0 ?_
              refine then_n (hK65 _ _ ?_)
              refine wp_seq_k fun K66 hK66 => ?_
              refine wp_region_lit ?_
              refine sv' hF (wn rfl) rfl rfl (R.move (hF.ev rfl)) fun a hF => ?_
              refine so (wn rfl) (O.call rfl rfl hF ent71 (hF.evs rfl) hS (rread_calls (some ⟨gf, 0, none⟩) k c21 (List.replicate xs.length 1) w (rd_left (Rd.own0 hS (.t (.t (.t (.t (.t (.t (.t (.t .h)))))))))) (by rw [List.length_replicate, hk]) (byt_rep _ (by decide))) fun v s206 a w hR hF hS => ?_)
              obtain ⟨rfl, rfl⟩ := hR
              refine sv' hF (wn rfl) rfl rfl (R.move (hF.ev rfl)) fun a hF => ?_
              refine sv' hF (wn rfl) rfl rfl (R.extract (hF.ev rfl) rfl) fun a hF => ?_
              refine sv' hF (wn rfl) rfl rfl (R.extract (hF.ev rfl) rfl) fun a hF => ?_
              refine so (wn rfl) (O.storeW sz29 (hF.ev rfl) (hF.ev rfl) (rfl) rfl (by simp [Value.oneCell']) hS (.t (.t (.t (.t (.t .h))))) (rfl) fun w hS => ?_)
              refine sv' hF (wn rfl) rfl rfl (R.assign (hF.ev rfl)) fun a hF => ?_
              refine s0 ?_
              refine then_n (hK66 _ _ ?_)
              refine wp_seq_k fun K67 hK67 => ?_
              refine wp_region_lit ?_
              refine sv' hF (wn rfl) rfl rfl (R.loadW agg29 (hF.ev rfl) hS (.t (.t (.t (.t (.t (.t (.t .h))))))) sz29 (rfl)) fun a hF => ?_
              refine sv' hF (wn rfl) rfl rfl (R.loadW agg29 (hF.ev rfl) hS (.t (.t (.t (.t (.t .h))))) sz29 (rfl)) fun a hF => ?_
              refine sv' hF (wn rfl) rfl rfl (R.as (u := .bool true) (R.eqlW (x := readN (List.replicate xs.length 1)) (y := readN (List.replicate xs.length 1)) (hF.ev rfl) (hF.ev rfl) (readN_lt (byt_rep _ (by decide))) (readN_lt (byt_rep _ (by decide)))) (congrArg Value.bool (decide_eq_true (rfl)))) fun a hF => ?_
              refine sv' hF (wn rfl) rfl rfl (R.move (hF.ev rfl)) fun a hF => ?_
              refine sv' hF (wy hF rfl rfl rfl) rfl rfl (R.move (hF.ev rfl)) fun a hF => ?_
              refine sv' hF (wy hF rfl rfl rfl) rfl rfl (R.move (hF.ev rfl)) fun a hF => ?_
              refine sv' hF (wy hF rfl rfl rfl) rfl rfl (R.as (u := .bool true) (R.eql (p := if (List.replicate xs.length 1).length = 32 then 0 else 20) (q := if (List.replicate xs.length 1).length = 32 then 0 else 20) (hF.ev rfl) (hF.ev rfl)) (congrArg Value.bool (decide_eq_true (rfl)))) fun a hF => ?_
              refine sv' hF (wn rfl) rfl rfl (R.pickT (hF.ev rfl) (hF.ev rfl)) fun a hF => ?_
              refine sv' hF (wn rfl) rfl rfl (R.assign (hF.ev rfl)) fun a hF => ?_
              refine s0 ?_
              refine then_n (hK67 _ _ ?_)
              refine wp_ret (hR _ _ _ _ _ hF (run_results Try.results16 (.t hF rfl (.nil))) ?_)
              exact ⟨_, [], rfl, ⟨rfl, rfl⟩, hS.none⟩

end Go.Proofs.Ythgecfjpacebeaa
