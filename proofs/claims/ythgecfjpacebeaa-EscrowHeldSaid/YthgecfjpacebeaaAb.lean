/- The calls of EscrowHeld. -/
import Derived.Test.YthgecfjpacebeaaAa
namespace Go.Proofs.Ythgecfjpacebeaa
open Go Go.Fw Go.RowKit
attribute [local irreducible] Go.Oper.wp Go.Code.wp Go.wpList Go.Fw.WL Go.Calls
theorem escrowHeld_calls (A : Option Addr) (cap : Nat) (ps : List Stp) (w0 : World) (hA : Rd w0 A (ps.flatMap stpL)) (hok : ∀ p ∈ ps, p.ok) (hc : ps.length ≤ cap) (hcap : cap ≤ 9223372036854775807) : Ret Try.prog 3 [.slice A ps.length cap] w0 [] (fun v s => v = .bool true ∧ s = []) := by
  refine fn_start Try.func3 rfl Try.ntmps3 rfl [(0, .slice A ps.length cap)] ⟨rfl, trivial⟩ ?_
  intro Q a hP hF hR hN
  have hS := St.start w0
  refine wp_seq_k fun K1 hK1 => ?_
  refine wp_region_lit ?_
  refine sv' hF (wn rfl) rfl rfl (R.assign (hF.ev rfl)) fun a hF => ?_
  refine s0 ?_
  refine then_n (hK1 _ _ ?_)
  refine wp_seq_k fun K2 hK2 => ?_
  refine wp_region_lit ?_
  refine so (wn rfl) (O.call rfl rfl hF ent18 (hF.evs rfl) hS (known_calls _) fun v s12 a w hR hF hS => ?_)
  obtain ⟨rfl, rfl⟩ := hR
  refine sv' hF (wn rfl) rfl rfl (R.assign (hF.ev rfl)) fun a hF => ?_
  refine s0 ?_
  refine then_n (hK2 _ _ ?_)
  refine wp_seq_k fun K3 hK3 => ?_
  refine wp_region_lit ?_
  refine so (wn rfl) (O.call rfl rfl hF ent19 (hF.evs rfl) hS (new_calls _) fun v s13 a w hR hF hS => ?_)
  obtain ⟨bv, rfl, hV⟩ := hR
  refine sv' hF (wn rfl) rfl rfl (R.assign (hF.ev rfl)) fun a hF => ?_
  refine s0 ?_
  refine then_n (hK3 _ _ ?_)
  refine wp_seq_k fun K4 hK4 => ?_
  refine wp_seq_k fun K5 hK5 => ?_
  refine wp_region_lit ?_
  refine sv' hF (wn rfl) rfl rfl (R.move (hF.ev rfl)) fun a hF => ?_
  refine sv' hF (wn rfl) rfl rfl ((by first | exact R.notD (hF.ev rfl) | exact R.not (hF.ev rfl))) fun a hF => ?_
  refine sv' hF (wn rfl) rfl rfl (R.move (hF.ev rfl)) fun a hF => ?_
  refine hF.splitB (t := 16) rfl (fun h16 hF => ?_) (fun h16 hF => ?_)
  ·
    exact absurd h16 (by decide)
  ·
    refine sv' hF (wy hF rfl rfl rfl) rfl rfl (R.move (hF.ev rfl)) fun a hF => ?_
    refine sv' hF (wy hF rfl rfl rfl) rfl rfl (R.nilP (hF.ev rfl) (hF.ev rfl) Try.underlying24) fun a hF => ?_
    refine sv' hF (wn rfl) rfl rfl (R.pickF (hF.ev rfl) (hF.ev rfl)) fun a hF => ?_
    refine s0 ?_
    refine then_n (hK5 _ _ ?_)
    refine cS hF rfl (fun c1 => ?_) (fun c1 => ?_)
    ·
      exact absurd c1 (by decide)
    ·
      refine wp_skip ?_
      refine then_n (hK4 _ _ ?_)
      refine wp_seq_k fun K6 hK6 => ?_
      refine wp_region_lit ?_
      refine so (wn rfl) (O.makeSlice rfl rfl hF Try.underlying26 inf29 rfl rfl (hF.ev rfl) (hF.ev rfl) (by omega) (by omega) (by omega) (by omega) hS fun b20 a w hF hS => ?_)
      refine sv' hF (wn rfl) rfl rfl (R.assign (hF.ev rfl)) fun a hF => ?_
      refine s0 ?_
      refine then_n (hK6 _ _ ?_)
      refine wp_seq_k fun K7 hK7 => ?_
      refine wp_region_lit ?_
      refine so (wn rfl) (O.alloc rfl rfl hF ze29 rfl hS fun b6 a w hF hS => ?_)
      refine s0 ?_
      refine then_n (hK7 _ _ ?_)
      refine wp_seq_k fun K8 hK8 => ?_
      refine wp_seq_k fun K9 hK9 => ?_
      refine wp_region_lit ?_
      refine sv' hF (wn rfl) rfl rfl (R.assign (hF.ev rfl)) fun a hF => ?_
      refine s0 ?_
      refine then_n (hK9 _ _ ?_)
      refine wp_block ?_
      refine wp_loop_N (fun g a w => ∃ (i : Nat) (V : Vau) (s : Seg), ps.length - i = g ∧ Fr 144 [(0, .slice A ps.length cap), (4, .pointer (some ⟨bv, 0, none⟩)), (5, .slice (some ⟨b20, 0, none⟩) 64 64), (6, .pointer (some ⟨b6, 0, none⟩)), (7, .int .i64 (i : Nat))] a ∧ St w0 [] [s, [(b20, Cel (heldC V.tok) 29)], [(b6, Cel (wc V.lock) 29)]] w ∧ (VaultS bv V s) ∧ (i ≤ ps.length)) (ps.length - 0) ?_ ?_
      · exact ⟨0, Vau.new, _, rfl, hF.sub ⟨rfl, rfl, rfl, rfl, rfl, trivial⟩, hS.sel [2, 1, 0] rfl rfl, hV, by omega⟩
      · rintro KL1 g a w ⟨i, V, s, hg1, hF, hS, hV, hi⟩ hKL1
        refine wp_seq_k fun K10 hK10 => ?_
        refine wp_seq_k fun K11 hK11 => ?_
        refine wp_region_lit ?_
        refine sv' hF (wn rfl) rfl rfl (R.move (hF.ev rfl)) fun a hF => ?_
        refine sv' hF (wn rfl) rfl rfl (R.move (hF.ev rfl)) fun a hF => ?_
        refine sv' hF (wn rfl) rfl rfl (R.len Try.underlying22 (hF.ev rfl)) fun a hF => ?_
        refine sv' hF (wn rfl) rfl rfl (R.lss (hF.ev rfl) (hF.ev rfl)) fun a hF => ?_
        refine s0 ?_
        refine then_n (hK11 _ _ ?_)
        refine cD hF rfl (fun c2 => ?_) (fun c2 => ?_)
        ·
          obtain ⟨p, hp⟩ : ∃ p, ps[i]? = some p := ⟨_, List.getElem?_eq_getElem (by omega)⟩
          have hpo := hok p (List.mem_of_getElem? hp)
          have hH0 := hV.tH_lt
          have hL0 := hV.lock_lt
          refine wp_skip ?_
          refine then_n (hK10 _ _ ?_)
          refine wp_seq_k fun K12 hK12 => ?_
          refine wp_block ?_
          refine wp_seq_k fun K13 hK13 => ?_
          refine wp_region_lit ?_
          refine sv' hF (wn rfl) rfl rfl (R.move (hF.ev rfl)) fun a hF => ?_
          refine sv' hF (wn rfl) rfl rfl (R.move (hF.ev rfl)) fun a hF => ?_
          refine sv' hF (wn rfl) rfl rfl (R.move (hF.ev rfl)) fun a hF => ?_
          refine sv' hF (wn rfl) rfl rfl (R.indexO Try.underlying22 sz34 (hF.ev rfl) (stp_ne (hA.old hS) hp) (hF.ev rfl) (by omega) (by omega)) fun a hF => ?_
          refine sv' hF (wn rfl) rfl rfl (R.loadAO (cs := stpL p) agg34 (hF.ev rfl) (hA.old hS) sz34 rfl (Nat.succ_pos _) (fun j v h => stp_at hp h)) fun a hF => ?_
          refine so (wn rfl) (O.callK rfl rfl hF ent20 (hF.evs rfl) hS (changing_calls bv V p s _ hV (hS.own1 .h) hpo) (fun _ => .h) fun v s33 a w hR hF hS => ?_)
          obtain ⟨bb, rfl, hV⟩ := hR
          refine sv' hF (wn rfl) rfl rfl (R.move (hF.ev rfl)) fun a hF => ?_
          refine sv' hF (wn rfl) rfl rfl (R.extract (hF.ev rfl) rfl) fun a hF => ?_
          refine sv' hF (wn rfl) rfl rfl (R.extract (hF.ev rfl) rfl) fun a hF => ?_
          refine sv' hF (wn rfl) rfl rfl (R.assign (hF.ev rfl)) fun a hF => ?_
          refine sv' hF (wn rfl) rfl rfl (R.assign (hF.ev rfl)) fun a hF => ?_
          refine s0 ?_
          refine then_n (hK13 _ _ ?_)
          refine wp_seq_k fun K14 hK14 => ?_
          refine wp_region_lit ?_
          refine sv' hF (wn rfl) rfl rfl (R.assign (hF.ev rfl)) fun a hF => ?_
          refine s0 ?_
          refine then_n (hK14 _ _ ?_)
          refine wp_seq_k fun K15 hK15 => ?_
          have hK15' : ∀ a w, (Fr 144 [(0, .slice A ps.length cap), (4, .pointer (some ⟨bv, 0, none⟩)), (5, .slice (some ⟨b20, 0, none⟩) 64 64), (6, .pointer (some ⟨b6, 0, none⟩)), (7, .int .i64 (i : Nat)), (10, .int .i64 0)] a ∧ St w0 [] [s33, [(b20, Cel (heldC (V.chg p).1.tok) 29)], [(b6, Cel (wc (V.chg p).1.lock) 29)]] w) → K15 a w := by
            rintro a w ⟨hF, hS⟩
            refine hK15 _ _ ?_
            refine wp_seq_k fun K16 hK16 => ?_
            refine wp_seq_k fun K17 hK17 => ?_
            refine wp_drawS hS [(0, 0), (1, 0), (2, 0), (3, 0), (5, 1), (4, 2), (6, 0), (7, 0)] mix (by kernel_rfl) (hP.then.block.then.then.block.then.then) fun w hS => ?_
            have hD := hS
            refine dq hF rfl (wn rfl) rfl rfl (fun w => R.move (hF.ev rfl)) fun a hF => ?_
            refine dq hF rfl (wn rfl) rfl rfl (fun w => R.neq (hF.ev rfl) (hF.ev rfl)) fun a hF => ?_
            refine dq hF rfl (wn rfl) rfl rfl (fun w => R.move (hF.ev rfl)) fun a hF => ?_
            refine hF.splitD (t := 126) rfl (fun h126 hF => ?_) (fun h126 hF => ?_)
            ·
              exact absurd rfl h126
            ·
              refine dq hF rfl (wy hF rfl rfl rfl) rfl rfl (fun w => R.move (hF.ev rfl)) fun a hF => ?_
              refine dr hF rfl (wy hF rfl rfl rfl) rfl rfl hD (fun w hD => R.loadW agg29 (hF.ev rfl) hD (.t (.t .h)) sz29 rfl) fun a hF => ?_
              refine dl rfl (wy hF rfl rfl rfl) (O.callK rfl rfl hF ent24 (hF.evs rfl) hS (locked_calls bv _ _ _ hV (hS.own1 .h)) (fun _ => .h) fun v s128 a w hR hF hS => ⟨fun hD => by obtain ⟨_, he⟩ := hR; rw [he] at hS; exact hS, ?_⟩)
              obtain ⟨rfl, he⟩ := hR
              rw [he] at hS
              have hD := hS
              refine dq hF rfl (wy hF rfl rfl rfl) rfl rfl (fun w => R.neqW (x := (V.chg p).1.lock) (y := (V.chg p).1.lock) (hF.ev rfl) (hF.ev rfl) hV.lock_lt hV.lock_lt) fun a hF => ?_
              refine dq hF rfl (wn rfl) rfl rfl (fun w => R.pickF (hF.ev rfl) (hF.ev rfl)) fun a hF => ?_
              refine d0 ?_
              refine then_n (hK17 _ _ ?_)
              refine cD hF rfl (fun c8 => ?_) (fun c8 => ?_)
              ·
                exact absurd rfl c8
              ·
                refine wp_skip ?_
                refine then_n (hK16 _ _ ?_)
                refine wp_seq_k fun K18 hK18 => ?_
                refine wp_region_lit ?_
                refine sv' hF (wn rfl) rfl rfl (R.assign (hF.ev rfl)) fun a hF => ?_
                refine s0 ?_
                refine then_n (hK18 _ _ ?_)
                refine wp_block ?_
                refine wp_loop_N (fun g a w => ∃ (t : Nat), 64 - t = g ∧ Fr 144 [(0, .slice A ps.length cap), (4, .pointer (some ⟨bv, 0, none⟩)), (5, .slice (some ⟨b20, 0, none⟩) 64 64), (6, .pointer (some ⟨b6, 0, none⟩)), (7, .int .i64 (i : Nat)), (11, .int .i64 (t : Nat))] a ∧ St w0 [] [s33, [(b20, Cel (heldC (V.chg p).1.tok) 29)], [(b6, Cel (wc (V.chg p).1.lock) 29)]] w ∧ (t ≤ 64)) (64 - 0) ?_ ?_
                · exact ⟨0, rfl, hF.sub ⟨rfl, rfl, rfl, rfl, rfl, rfl, trivial⟩, hS.sel [0, 1, 2] rfl rfl, by omega⟩
                · rintro KL2 g a w ⟨t, hg2, hF, hS, ht⟩ hKL2
                  refine wp_seq_k fun K19 hK19 => ?_
                  refine wp_seq_k fun K20 hK20 => ?_
                  refine wp_region_lit ?_
                  refine sv' hF (wn rfl) rfl rfl (R.move (hF.ev rfl)) fun a hF => ?_
                  refine sv' hF (wn rfl) rfl rfl (R.lss (hF.ev rfl) (hF.ev rfl)) fun a hF => ?_
                  refine s0 ?_
                  refine then_n (hK20 _ _ ?_)
                  refine cD hF rfl (fun c4 => ?_) (fun c4 => ?_)
                  ·
                    refine wp_skip ?_
                    refine then_n (hK19 _ _ ?_)
                    refine wp_seq_k fun K21 hK21 => ?_
                    refine wp_block ?_
                    refine wp_seq_k fun K22 hK22 => ?_
                    refine wp_drawS hS [(0, 0), (1, 0), (3, 0), (4, 0), (5, 0), (6, 1), (2, 2), (7, 0)] mix (by kernel_rfl) (hP.then.block.then.then.block.block.then.then.block.then) fun w hS => ?_
                    have hD := hS
                    refine dq hF rfl (wn rfl) rfl rfl (fun w => R.move (hF.ev rfl)) fun a hF => ?_
                    refine dq hF rfl (wn rfl) rfl rfl (fun w => R.move (hF.ev rfl)) fun a hF => ?_
                    refine dq hF rfl (wn rfl) rfl rfl (fun w => R.move (hF.ev rfl)) fun a hF => ?_
                    refine dq hF rfl (wn rfl) rfl rfl (fun w => R.move (hF.ev rfl)) fun a hF => ?_
                    refine dq hF rfl (wn rfl) rfl rfl (fun w => R.indexS Try.underlying26 sz29 (hF.ev rfl) (hF.ev rfl) (by omega) (by omega)) fun a hF => ?_
                    refine dr hF rfl (wn rfl) rfl rfl hD (fun w hD => R.loadA (cs := wc (tH ((V.chg p).1.tok t))) agg29 (hF.ev rfl) hD (.t .h) sz29 rfl (held_at _ (by omega))) fun a hF => ?_
                    refine dl rfl (wn rfl) (O.callK rfl rfl hF ent25 (hF.evs rfl) hS (held_calls bv _ (t : Nat) _ _ hV (hS.own1 .h)) (fun _ => .h) fun v s138 a w hR hF hS => ⟨fun hD => by obtain ⟨_, he⟩ := hR; rw [he] at hS; exact hS, ?_⟩)
                    obtain ⟨rfl, he⟩ := hR
                    rw [he] at hS
                    have hD := hS
                    refine dq hF rfl (wn rfl) rfl rfl (fun w => R.neqW (x := tH ((V.chg p).1.tok t)) (y := tH ((V.chg p).1.tok t)) (hF.ev rfl) (hF.ev rfl) (hV.tH_lt _) (hV.tH_lt _)) fun a hF => ?_
                    refine d0 ?_
                    refine then_n (hK22 _ _ ?_)
                    refine cD hF rfl (fun c9 => ?_) (fun c9 => ?_)
                    ·
                      exact absurd rfl c9
                    ·
                      refine wp_skip ?_
                      refine blk_n ?_
                      refine then_n (hK21 _ _ ?_)
                      refine wp_region_lit ?_
                      refine sv' hF (wn rfl) rfl rfl (R.move (hF.ev rfl)) fun a hF => ?_
                      refine sv' hF (wn rfl) rfl rfl (R.addI (hF.ev rfl) (hF.ev rfl) (by omega)) fun a hF => ?_
                      refine sv' hF (wn rfl) rfl rfl (R.assign (hF.ev rfl)) fun a hF => ?_
                      refine s0 ?_
                      refine then_n (hKL2 (64 - (t + 1)) _ _ ?_ ?_)
                      · omega
                      · exact ⟨t + 1, rfl, hF.sub ⟨rfl, rfl, rfl, rfl, rfl, rfl, trivial⟩, hS.sel [0, 1, 2] rfl rfl, by omega⟩
                  ·
                    refine wp_exit (then_x (then_x (blk_hit ?_)))
                    refine blk_n ?_
                    refine then_n (hK12 _ _ ?_)
                    refine wp_region_lit ?_
                    refine sv' hF (wn rfl) rfl rfl (R.move (hF.ev rfl)) fun a hF => ?_
                    refine sv' hF (wn rfl) rfl rfl (R.addI (hF.ev rfl) (hF.ev rfl) (by omega)) fun a hF => ?_
                    refine sv' hF (wn rfl) rfl rfl (R.assign (hF.ev rfl)) fun a hF => ?_
                    refine s0 ?_
                    refine then_n (hKL1 (ps.length - (i + 1)) _ _ ?_ ?_)
                    · omega
                    · exact ⟨i + 1, (V.chg p).1, _, rfl, hF.sub ⟨rfl, rfl, rfl, rfl, rfl, trivial⟩, hS.sel [0, 1, 2] rfl rfl, hV, by omega⟩
          refine wp_seq_k fun K23 hK23 => ?_
          refine wp_region_lit ?_
          refine sv' hF (wn rfl) rfl rfl (R.move (hF.ev rfl)) fun a hF => ?_
          refine sv' hF (wn rfl) rfl rfl (R.eql (hF.ev rfl) (hF.ev rfl)) fun a hF => ?_
          refine s0 ?_
          refine then_n (hK23 _ _ ?_)
          refine cD hF rfl (fun c3 => ?_) (fun c3 => ?_)
          ·
            refine wp_seq_k fun K24 hK24 => ?_
            refine wp_region_lit ?_
            refine sv' hF (wn rfl) rfl rfl (R.move (hF.ev rfl)) fun a hF => ?_
            refine sv' hF (wn rfl) rfl rfl (R.move (hF.ev rfl)) fun a hF => ?_
            refine sv' hF (wn rfl) rfl rfl (R.indexO Try.underlying22 sz34 (hF.ev rfl) (stp_ne (hA.old hS) hp) (hF.ev rfl) (by omega) (by omega)) fun a hF => ?_
            refine sv' hF (wn rfl) rfl rfl (R.fieldAddrO (m := 1) Try.underlying34 rfl nz3 (hF.ev rfl) (stp_ne (hA.old hS) hp) rfl) fun a hF => ?_
            refine sv' hF (wn rfl) rfl rfl (R.loadO one3 (hF.ev rfl) (hA.old hS) (stp_at hp rfl)) fun a hF => ?_
            refine so (wn rfl) (O.call rfl rfl hF ent21 (hF.evs rfl) hS (pick_calls p.what 11 _ hpo.what (by decide) (by decide)) fun v s43 a w hR hF hS => ?_)
            obtain ⟨rfl, rfl⟩ := hR
            refine s0 ?_
            refine then_n (hK24 _ _ ?_)
            refine wp_block ?_
            refine wp_seq_k fun K25 hK25 => ?_
            refine wp_region_lit ?_
            refine sv' hF (wn rfl) rfl rfl (R.eql (hF.ev rfl) (hF.ev rfl)) fun a hF => ?_
            refine sv' hF (wn rfl) rfl rfl (R.assign (hF.ev rfl)) fun a hF => ?_
            refine s0 ?_
            refine then_n (hK25 _ _ ?_)
            refine cD hF rfl (fun c4 => ?_) (fun c4 => ?_)
            ·
              obtain ⟨⟨t0, t1⟩, hx, eV⟩ := chg3 c4 c3
              obtain ⟨q, hq⟩ := Int.eq_ofNat_of_zero_le t0
              have hpk : pickN p.token 64 = (q : Int) := by rw [pickN_id t0 t1, hq]
              have q64 : q < 64 := by omega
              rw [hq] at hx eV
              refine wp_drawS hS [(0, 0), (1, 0), (2, 0), (3, 0), (4, 0), (5, 1), (7, 0), (8, 0), (9, 0), (10, 0), (11, 0), (12, 1), (16, 0), (17, 0), (18, 0), (19, 0), (20, 1), (6, 2), (13, 2), (14, 0), (15, 1), (21, 2), (22, 0), (23, 0), (24, 0), (25, 0), (26, 3), (27, 0)] mix (by kernel_rfl) (hP.then.block.then.then.block.then.block) fun w hS => ?_
              have hD := hS
              refine dq hF rfl (wn rfl) rfl rfl (fun w => R.move (hF.ev rfl)) fun a hF => ?_
              refine dq hF rfl (wn rfl) rfl rfl (fun w => R.move (hF.ev rfl)) fun a hF => ?_
              refine dq hF rfl (wn rfl) rfl rfl (fun w => R.move (hF.ev rfl)) fun a hF => ?_
              refine dq hF rfl (wn rfl) rfl rfl (fun w => R.indexO Try.underlying22 sz34 (hF.ev rfl) (stp_ne (hA.old hS) hp) (hF.ev rfl) (by omega) (by omega)) fun a hF => ?_
              refine dq hF rfl (wn rfl) rfl rfl (fun w => R.fieldAddrO (m := 2) Try.underlying34 rfl nz3 (hF.ev rfl) (stp_ne (hA.old hS) hp) rfl) fun a hF => ?_
              refine dr hF rfl (wn rfl) rfl rfl hD (fun w hD => R.loadO one3 (hF.ev rfl) (hA.old hD) (stp_at hp rfl)) fun a hF => ?_
              refine dq hF rfl (wn rfl) rfl rfl (fun w => R.move (hF.ev rfl)) fun a hF => ?_
              refine dq hF rfl (wn rfl) rfl rfl (fun w => R.move (hF.ev rfl)) fun a hF => ?_
              refine dq hF rfl (wn rfl) rfl rfl (fun w => R.move (hF.ev rfl)) fun a hF => ?_
              refine dq hF rfl (wn rfl) rfl rfl (fun w => R.indexO Try.underlying22 sz34 (hF.ev rfl) (stp_ne (hA.old hS) hp) (hF.ev rfl) (by omega) (by omega)) fun a hF => ?_
              refine dq hF rfl (wn rfl) rfl rfl (fun w => R.fieldAddrO (m := 2) Try.underlying34 rfl nz3 (hF.ev rfl) (stp_ne (hA.old hS) hp) rfl) fun a hF => ?_
              refine dr hF rfl (wn rfl) rfl rfl hD (fun w hD => R.loadO one3 (hF.ev rfl) (hA.old hD) (stp_at hp rfl)) fun a hF => ?_
              refine dq hF rfl (wn rfl) rfl rfl (fun w => R.move (hF.ev rfl)) fun a hF => ?_
              refine dq hF rfl (wn rfl) rfl rfl (fun w => R.move (hF.ev rfl)) fun a hF => ?_
              refine dq hF rfl (wn rfl) rfl rfl (fun w => R.indexO Try.underlying22 sz34 (hF.ev rfl) (stp_ne (hA.old hS) hp) (hF.ev rfl) (by omega) (by omega)) fun a hF => ?_
              refine dq hF rfl (wn rfl) rfl rfl (fun w => R.fieldAddrO (m := 4) Try.underlying34 rfl nz29 (hF.ev rfl) (stp_ne (hA.old hS) hp) rfl) fun a hF => ?_
              refine dr hF rfl (wn rfl) rfl rfl hD (fun w hD => R.loadAO (cs := wc p.amt) agg29 (hF.ev rfl) (hA.old hD) sz29 rfl (Nat.succ_pos _) (fun j v h => by rw [Nat.add_assoc]; exact stp_at hp (getAt (l := stpL p) (cs := wc p.amt) (off := 4) rfl j v h))) fun a hF => ?_
              refine dl rfl (wn rfl) (O.call rfl rfl hF ent21 (hF.evs rfl) hS (pick_calls p.token 64 _ hpo.token (by decide) (by decide)) fun v s53 a w hR hF hS => ⟨fun hD => hS.tail, ?_⟩)
              obtain ⟨hv, rfl⟩ := hR
              have hD := hS.tail
              rw [hpk] at hv; subst hv
              refine dl rfl (wn rfl) (O.call rfl rfl hF ent21 (hF.evs rfl) hS (pick_calls p.token 64 _ hpo.token (by decide) (by decide)) fun v s60 a w hR hF hS => ⟨fun hD => hS.tail.tail, ?_⟩)
              obtain ⟨hv, rfl⟩ := hR
              have hD := hS.tail.tail
              rw [hpk] at hv; subst hv
              refine dq hF rfl (wn rfl) rfl rfl (fun w => R.indexS Try.underlying26 sz29 (hF.ev rfl) (hF.ev rfl) (by omega) (by omega)) fun a hF => ?_
              refine dr hF rfl (wn rfl) rfl rfl hD (fun w hD => R.loadA (cs := wc (tH (V.tok q))) agg29 (hF.ev rfl) hD (.t (.t .h)) sz29 rfl (held_at _ q64)) fun a hF => ?_
              refine dl rfl (wn rfl) (O.call rfl rfl hF ent22 (hF.evs rfl) hS (radd_calls (tH (V.tok q)) p.amt _ (hH0 _) hpo.amt) fun v s68 a w hR hF hS => ⟨fun hD => hS.tail.tail.tail, ?_⟩)
              obtain ⟨hv, rfl⟩ := hR
              have hD := hS.tail.tail.tail
              rw [addW_ok hx] at hv; subst hv
              refine dq hF rfl (wn rfl) rfl rfl (fun w => R.move (hF.ev rfl)) fun a hF => ?_
              refine dq hF rfl (wn rfl) rfl rfl (fun w => R.extract (hF.ev rfl) rfl) fun a hF => ?_
              refine dq hF rfl (wn rfl) rfl rfl (fun w => R.extract (hF.ev rfl) rfl) fun a hF => ?_
              refine dq hF rfl (wn rfl) rfl rfl (fun w => R.indexS Try.underlying26 sz29 (hF.ev rfl) (hF.ev rfl) (by omega) (by omega)) fun a hF => ?_
              refine dw rfl (wn rfl) (O.storeA sz29 (hF.ev rfl) (hF.ev rfl) rfl rfl (by simp [Value.oneCell']) hS (.t (.t (.t (.t (.t .h))))) (show spl _ _ _ = heldC (V.chg p).1.tok from (held_spl V.tok q64 _ _).trans (by rw [eV])) (by rw [length_heldC]; show 0 + q * 4 + 4 ≤ 256; omega) fun w hS => ?_)
              refine dq hF rfl (wn rfl) rfl rfl (fun w => R.assign (hF.ev rfl)) fun a hF => ?_
              refine d0 ?_
              refine blk_n ?_
              rw [← (show (V.chg p).1.lock = V.lock by rw [eV])] at hS
              exact then_n (hK15' _ _ ⟨hF.sub ⟨rfl, rfl, rfl, rfl, rfl, rfl, trivial⟩, hS.sel [4, 5, 6] rfl rfl⟩)
            ·
              refine wp_seq_k fun K26 hK26 => ?_
              refine wp_region_lit ?_
              refine sv' hF (wn rfl) rfl rfl (R.eql (hF.ev rfl) (hF.ev rfl)) fun a hF => ?_
              refine sv' hF (wn rfl) rfl rfl (R.assign (hF.ev rfl)) fun a hF => ?_
              refine s0 ?_
              refine then_n (hK26 _ _ ?_)
              refine cD hF rfl (fun c5 => ?_) (fun c5 => ?_)
              ·
                obtain ⟨⟨t0, t1⟩, hx, eV, _⟩ := chg4 c5 c3
                obtain ⟨q, hq⟩ := Int.eq_ofNat_of_zero_le t0
                have hpk : pickN p.token 64 = (q : Int) := by rw [pickN_id t0 t1, hq]
                have q64 : q < 64 := by omega
                rw [hq] at hx eV
                refine wp_drawS hS [(0, 0), (1, 0), (2, 0), (3, 0), (4, 0), (5, 1), (7, 0), (8, 0), (9, 0), (10, 0), (11, 0), (12, 1), (16, 0), (17, 0), (18, 0), (19, 0), (20, 1), (6, 2), (13, 2), (14, 0), (15, 1), (21, 2), (22, 0), (23, 0), (24, 0), (25, 0), (26, 3), (27, 0)] mix (by kernel_rfl) (hP.then.block.then.then.block.then.block) fun w hS => ?_
                have hD := hS
                refine dq hF rfl (wn rfl) rfl rfl (fun w => R.move (hF.ev rfl)) fun a hF => ?_
                refine dq hF rfl (wn rfl) rfl rfl (fun w => R.move (hF.ev rfl)) fun a hF => ?_
                refine dq hF rfl (wn rfl) rfl rfl (fun w => R.move (hF.ev rfl)) fun a hF => ?_
                refine dq hF rfl (wn rfl) rfl rfl (fun w => R.indexO Try.underlying22 sz34 (hF.ev rfl) (stp_ne (hA.old hS) hp) (hF.ev rfl) (by omega) (by omega)) fun a hF => ?_
                refine dq hF rfl (wn rfl) rfl rfl (fun w => R.fieldAddrO (m := 2) Try.underlying34 rfl nz3 (hF.ev rfl) (stp_ne (hA.old hS) hp) rfl) fun a hF => ?_
                refine dr hF rfl (wn rfl) rfl rfl hD (fun w hD => R.loadO one3 (hF.ev rfl) (hA.old hD) (stp_at hp rfl)) fun a hF => ?_
                refine dq hF rfl (wn rfl) rfl rfl (fun w => R.move (hF.ev rfl)) fun a hF => ?_
                refine dq hF rfl (wn rfl) rfl rfl (fun w => R.move (hF.ev rfl)) fun a hF => ?_
                refine dq hF rfl (wn rfl) rfl rfl (fun w => R.move (hF.ev rfl)) fun a hF => ?_
                refine dq hF rfl (wn rfl) rfl rfl (fun w => R.indexO Try.underlying22 sz34 (hF.ev rfl) (stp_ne (hA.old hS) hp) (hF.ev rfl) (by omega) (by omega)) fun a hF => ?_
                refine dq hF rfl (wn rfl) rfl rfl (fun w => R.fieldAddrO (m := 2) Try.underlying34 rfl nz3 (hF.ev rfl) (stp_ne (hA.old hS) hp) rfl) fun a hF => ?_
                refine dr hF rfl (wn rfl) rfl rfl hD (fun w hD => R.loadO one3 (hF.ev rfl) (hA.old hD) (stp_at hp rfl)) fun a hF => ?_
                refine dq hF rfl (wn rfl) rfl rfl (fun w => R.move (hF.ev rfl)) fun a hF => ?_
                refine dq hF rfl (wn rfl) rfl rfl (fun w => R.move (hF.ev rfl)) fun a hF => ?_
                refine dq hF rfl (wn rfl) rfl rfl (fun w => R.indexO Try.underlying22 sz34 (hF.ev rfl) (stp_ne (hA.old hS) hp) (hF.ev rfl) (by omega) (by omega)) fun a hF => ?_
                refine dq hF rfl (wn rfl) rfl rfl (fun w => R.fieldAddrO (m := 4) Try.underlying34 rfl nz29 (hF.ev rfl) (stp_ne (hA.old hS) hp) rfl) fun a hF => ?_
                refine dr hF rfl (wn rfl) rfl rfl hD (fun w hD => R.loadAO (cs := wc p.amt) agg29 (hF.ev rfl) (hA.old hD) sz29 rfl (Nat.succ_pos _) (fun j v h => by rw [Nat.add_assoc]; exact stp_at hp (getAt (l := stpL p) (cs := wc p.amt) (off := 4) rfl j v h))) fun a hF => ?_
                refine dl rfl (wn rfl) (O.call rfl rfl hF ent21 (hF.evs rfl) hS (pick_calls p.token 64 _ hpo.token (by decide) (by decide)) fun v s81 a w hR hF hS => ⟨fun hD => hS.tail, ?_⟩)
                obtain ⟨hv, rfl⟩ := hR
                have hD := hS.tail
                rw [hpk] at hv; subst hv
                refine dl rfl (wn rfl) (O.call rfl rfl hF ent21 (hF.evs rfl) hS (pick_calls p.token 64 _ hpo.token (by decide) (by decide)) fun v s88 a w hR hF hS => ⟨fun hD => hS.tail.tail, ?_⟩)
                obtain ⟨hv, rfl⟩ := hR
                have hD := hS.tail.tail
                rw [hpk] at hv; subst hv
                refine dq hF rfl (wn rfl) rfl rfl (fun w => R.indexS Try.underlying26 sz29 (hF.ev rfl) (hF.ev rfl) (by omega) (by omega)) fun a hF => ?_
                refine dr hF rfl (wn rfl) rfl rfl hD (fun w hD => R.loadA (cs := wc (tH (V.tok q))) agg29 (hF.ev rfl) hD (.t (.t .h)) sz29 rfl (held_at _ q64)) fun a hF => ?_
                refine dl rfl (wn rfl) (O.call rfl rfl hF ent23 (hF.evs rfl) hS (rsub_calls (tH (V.tok q)) p.amt _ (hH0 _) hpo.amt) fun v s96 a w hR hF hS => ⟨fun hD => hS.tail.tail.tail, ?_⟩)
                obtain ⟨hv, rfl⟩ := hR
                have hD := hS.tail.tail.tail
                rw [subW_ok hx] at hv; subst hv
                refine dq hF rfl (wn rfl) rfl rfl (fun w => R.move (hF.ev rfl)) fun a hF => ?_
                refine dq hF rfl (wn rfl) rfl rfl (fun w => R.extract (hF.ev rfl) rfl) fun a hF => ?_
                refine dq hF rfl (wn rfl) rfl rfl (fun w => R.extract (hF.ev rfl) rfl) fun a hF => ?_
                refine dq hF rfl (wn rfl) rfl rfl (fun w => R.indexS Try.underlying26 sz29 (hF.ev rfl) (hF.ev rfl) (by omega) (by omega)) fun a hF => ?_
                refine dw rfl (wn rfl) (O.storeA sz29 (hF.ev rfl) (hF.ev rfl) rfl rfl (by simp [Value.oneCell']) hS (.t (.t (.t (.t (.t .h))))) (show spl _ _ _ = heldC (V.chg p).1.tok from (held_spl V.tok q64 _ _).trans (by rw [eV])) (by rw [length_heldC]; show 0 + q * 4 + 4 ≤ 256; omega) fun w hS => ?_)
                refine dq hF rfl (wn rfl) rfl rfl (fun w => R.assign (hF.ev rfl)) fun a hF => ?_
                refine d0 ?_
                refine blk_n ?_
                rw [← (show (V.chg p).1.lock = V.lock by rw [eV])] at hS
                exact then_n (hK15' _ _ ⟨hF.sub ⟨rfl, rfl, rfl, rfl, rfl, rfl, trivial⟩, hS.sel [4, 5, 6] rfl rfl⟩)
              ·
                refine wp_seq_k fun K27 hK27 => ?_
                refine wp_region_lit ?_
                refine sv' hF (wn rfl) rfl rfl (R.eql (hF.ev rfl) (hF.ev rfl)) fun a hF => ?_
                refine sv' hF (wn rfl) rfl rfl (R.assign (hF.ev rfl)) fun a hF => ?_
                refine s0 ?_
                refine then_n (hK27 _ _ ?_)
                refine cD hF rfl (fun c6 => ?_) (fun c6 => ?_)
                ·
                  obtain ⟨hx, eV⟩ := chg5 c6 c3
                  refine wp_drawS hS [(0, 1), (1, 0), (2, 0), (3, 0), (4, 0), (5, 1), (6, 2), (7, 0), (8, 0), (9, 0), (10, 3), (11, 0)] mix (by kernel_rfl) (hP.then.block.then.then.block.then.block) fun w hS => ?_
                  have hD := hS
                  refine dr hF rfl (wn rfl) rfl rfl hD (fun w hD => R.loadW agg29 (hF.ev rfl) hD (.t (.t (.t .h))) sz29 rfl) fun a hF => ?_
                  refine dq hF rfl (wn rfl) rfl rfl (fun w => R.move (hF.ev rfl)) fun a hF => ?_
                  refine dq hF rfl (wn rfl) rfl rfl (fun w => R.move (hF.ev rfl)) fun a hF => ?_
                  refine dq hF rfl (wn rfl) rfl rfl (fun w => R.indexO Try.underlying22 sz34 (hF.ev rfl) (stp_ne (hA.old hS) hp) (hF.ev rfl) (by omega) (by omega)) fun a hF => ?_
                  refine dq hF rfl (wn rfl) rfl rfl (fun w => R.fieldAddrO (m := 4) Try.underlying34 rfl nz29 (hF.ev rfl) (stp_ne (hA.old hS) hp) rfl) fun a hF => ?_
                  refine dr hF rfl (wn rfl) rfl rfl hD (fun w hD => R.loadAO (cs := wc p.amt) agg29 (hF.ev rfl) (hA.old hD) sz29 rfl (Nat.succ_pos _) (fun j v h => by rw [Nat.add_assoc]; exact stp_at hp (getAt (l := stpL p) (cs := wc p.amt) (off := 4) rfl j v h))) fun a hF => ?_
                  refine dl rfl (wn rfl) (O.call rfl rfl hF ent22 (hF.evs rfl) hS (radd_calls V.lock p.amt _ hL0 hpo.amt) fun v s109 a w hR hF hS => ⟨fun hD => hS.tail, ?_⟩)
                  obtain ⟨hv, rfl⟩ := hR
                  have hD := hS.tail
                  rw [addW_ok hx] at hv; subst hv
                  refine dq hF rfl (wn rfl) rfl rfl (fun w => R.move (hF.ev rfl)) fun a hF => ?_
                  refine dq hF rfl (wn rfl) rfl rfl (fun w => R.extract (hF.ev rfl) rfl) fun a hF => ?_
                  refine dq hF rfl (wn rfl) rfl rfl (fun w => R.extract (hF.ev rfl) rfl) fun a hF => ?_
                  refine dw rfl (wn rfl) (O.storeW sz29 (hF.ev rfl) (hF.ev rfl) rfl rfl (by simp [Value.oneCell']) hS (.t (.t (.t (.t .h)))) rfl fun w hS => ?_)
                  refine dq hF rfl (wn rfl) rfl rfl (fun w => R.assign (hF.ev rfl)) fun a hF => ?_
                  refine d0 ?_
                  refine blk_n ?_
                  rw [show V.lock + p.amt = (V.chg p).1.lock by rw [eV], ← (show (V.chg p).1.tok = V.tok by rw [eV])] at hS
                  exact then_n (hK15' _ _ ⟨hF.sub ⟨rfl, rfl, rfl, rfl, rfl, rfl, trivial⟩, hS.sel [2, 3, 4] rfl rfl⟩)
                ·
                  refine wp_seq_k fun K28 hK28 => ?_
                  refine wp_region_lit ?_
                  refine sv' hF (wn rfl) rfl rfl (R.eql (hF.ev rfl) (hF.ev rfl)) fun a hF => ?_
                  refine sv' hF (wn rfl) rfl rfl (R.assign (hF.ev rfl)) fun a hF => ?_
                  refine s0 ?_
                  refine then_n (hK28 _ _ ?_)
                  refine cD hF rfl (fun c7 => ?_) (fun c7 => ?_)
                  ·
                    obtain ⟨hx, eV⟩ := chg6 c7 c3
                    refine wp_drawS hS [(0, 1), (1, 0), (2, 0), (3, 0), (4, 0), (5, 1), (6, 2), (7, 0), (8, 0), (9, 0), (10, 3), (11, 0)] mix (by kernel_rfl) (hP.then.block.then.then.block.then.block) fun w hS => ?_
                    have hD := hS
                    refine dr hF rfl (wn rfl) rfl rfl hD (fun w hD => R.loadW agg29 (hF.ev rfl) hD (.t (.t (.t .h))) sz29 rfl) fun a hF => ?_
                    refine dq hF rfl (wn rfl) rfl rfl (fun w => R.move (hF.ev rfl)) fun a hF => ?_
                    refine dq hF rfl (wn rfl) rfl rfl (fun w => R.move (hF.ev rfl)) fun a hF => ?_
                    refine dq hF rfl (wn rfl) rfl rfl (fun w => R.indexO Try.underlying22 sz34 (hF.ev rfl) (stp_ne (hA.old hS) hp) (hF.ev rfl) (by omega) (by omega)) fun a hF => ?_
                    refine dq hF rfl (wn rfl) rfl rfl (fun w => R.fieldAddrO (m := 4) Try.underlying34 rfl nz29 (hF.ev rfl) (stp_ne (hA.old hS) hp) rfl) fun a hF => ?_
                    refine dr hF rfl (wn rfl) rfl rfl hD (fun w hD => R.loadAO (cs := wc p.amt) agg29 (hF.ev rfl) (hA.old hD) sz29 rfl (Nat.succ_pos _) (fun j v h => by rw [Nat.add_assoc]; exact stp_at hp (getAt (l := stpL p) (cs := wc p.amt) (off := 4) rfl j v h))) fun a hF => ?_
                    refine dl rfl (wn rfl) (O.call rfl rfl hF ent23 (hF.evs rfl) hS (rsub_calls V.lock p.amt _ hL0 hpo.amt) fun v s121 a w hR hF hS => ⟨fun hD => hS.tail, ?_⟩)
                    obtain ⟨hv, rfl⟩ := hR
                    have hD := hS.tail
                    rw [subW_ok hx] at hv; subst hv
                    refine dq hF rfl (wn rfl) rfl rfl (fun w => R.move (hF.ev rfl)) fun a hF => ?_
                    refine dq hF rfl (wn rfl) rfl rfl (fun w => R.extract (hF.ev rfl) rfl) fun a hF => ?_
                    refine dq hF rfl (wn rfl) rfl rfl (fun w => R.extract (hF.ev rfl) rfl) fun a hF => ?_
                    refine dw rfl (wn rfl) (O.storeW sz29 (hF.ev rfl) (hF.ev rfl) rfl rfl (by simp [Value.oneCell']) hS (.t (.t (.t (.t .h)))) rfl fun w hS => ?_)
                    refine dq hF rfl (wn rfl) rfl rfl (fun w => R.assign (hF.ev rfl)) fun a hF => ?_
                    refine d0 ?_
                    refine blk_n ?_
                    rw [show V.lock - p.amt = (V.chg p).1.lock by rw [eV], ← (show (V.chg p).1.tok = V.tok by rw [eV])] at hS
                    exact then_n (hK15' _ _ ⟨hF.sub ⟨rfl, rfl, rfl, rfl, rfl, rfl, trivial⟩, hS.sel [2, 3, 4] rfl rfl⟩)
                  ·
                    refine wp_skip ?_
                    refine blk_n ?_
                    rw [heldC_congr (f := V.tok) (g := (V.chg p).1.tok) (fun t _ => ((chgO c4 c5 c6 c7).1 t).symm), ← (chgO c4 c5 c6 c7).2.1] at hS
                    exact then_n (hK15' _ _ ⟨hF.sub ⟨rfl, rfl, rfl, rfl, rfl, rfl, trivial⟩, hS.sel [1, 2, 3] rfl rfl⟩)
          ·
            refine wp_skip ?_
            rw [show heldC V.tok = heldC (V.chg p).1.tok by rw [chgE c3], show wc V.lock = wc (V.chg p).1.lock by rw [chgE c3]] at hS
            exact then_n (hK15' _ _ ⟨hF.sub ⟨rfl, rfl, rfl, rfl, rfl, rfl, trivial⟩, hS.sel [0, 1, 2] rfl rfl⟩)
        ·
          refine wp_exit (then_x (then_x (blk_hit ?_)))
          refine then_n (hK8 _ _ ?_)
          refine wp_seq_k fun K29 hK29 => ?_
          refine wp_region_lit ?_
          refine sv' hF (wn rfl) rfl rfl (R.assign (hF.ev rfl)) fun a hF => ?_
          refine s0 ?_
          refine then_n (hK29 _ _ ?_)
          refine wp_ret (hR _ _ _ _ _ hF (run_results Try.results3 (.t hF rfl (.nil))) ?_)
          exact ⟨_, [], rfl, ⟨rfl, rfl⟩, hS.none⟩

end Go.Proofs.Ythgecfjpacebeaa
