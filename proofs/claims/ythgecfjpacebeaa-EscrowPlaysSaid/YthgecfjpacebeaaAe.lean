/- The calls of EscrowRefused. -/
import Derived.Test.YthgecfjpacebeaaAd
namespace Go.Proofs.Ythgecfjpacebeaa
open Go Go.Fw Go.RowKit
attribute [local irreducible] Go.Oper.wp Go.Code.wp Go.wpList Go.Fw.WL Go.Calls
theorem escrowRefused_calls (A : Option Addr) (cap : Nat) (ps : List Stp) (w0 : World) (hA : Rd w0 A (ps.flatMap stpL)) (hok : ∀ p ∈ ps, p.ok) (hc : ps.length ≤ cap) (hcap : cap ≤ 9223372036854775807) : Ret Try.prog 4 [.slice A ps.length cap] w0 [] (fun v s => v = .bool true ∧ s = []) := by
  refine fn_start Try.func4 rfl Try.ntmps4 rfl [(0, .slice A ps.length cap)] ⟨rfl, trivial⟩ ?_
  intro Q a hP hF hR hN
  have hS := St.start w0
  refine wp_seq_k fun K1 hK1 => ?_
  refine wp_region_lit ?_
  refine sv' hF (wn rfl) rfl rfl (R.assign (hF.ev rfl)) fun a hF => ?_
  refine s0 ?_
  refine then_n (hK1 _ _ ?_)
  refine wp_seq_k fun K2 hK2 => ?_
  refine wp_region_lit ?_
  refine so (wn rfl) (O.call rfl rfl hF ent18 (hF.evs rfl) hS (known_calls _) fun v s17 a w hR hF hS => ?_)
  obtain ⟨rfl, rfl⟩ := hR
  refine sv' hF (wn rfl) rfl rfl (R.assign (hF.ev rfl)) fun a hF => ?_
  refine s0 ?_
  refine then_n (hK2 _ _ ?_)
  refine wp_seq_k fun K3 hK3 => ?_
  refine wp_region_lit ?_
  refine so (wn rfl) (O.call rfl rfl hF ent19 (hF.evs rfl) hS (new_calls _) fun v s18 a w hR hF hS => ?_)
  obtain ⟨bv, rfl, hV⟩ := hR
  refine sv' hF (wn rfl) rfl rfl (R.assign (hF.ev rfl)) fun a hF => ?_
  refine s0 ?_
  refine then_n (hK3 _ _ ?_)
  refine wp_seq_k fun K4 hK4 => ?_
  refine wp_seq_k fun K5 hK5 => ?_
  refine wp_region_lit ?_
  refine sv' hF (wn rfl) rfl rfl (R.move (hF.ev rfl)) fun a hF => ?_
  refine sv' hF (wn rfl) rfl rfl ((by first | exact R.notD (hF.ev rfl) | exact R.not (hF.ev rfl))) fun a hF => ?_
  refine sv' hF (wn rfl) rfl rfl (R.move (hF.ev rfl)) fun a hF => ?_
  refine hF.splitB (t := 21) rfl (fun h21 hF => ?_) (fun h21 hF => ?_)
  ·
    exact absurd h21 (by decide)
  ·
    refine sv' hF (wy hF rfl rfl rfl) rfl rfl (R.move (hF.ev rfl)) fun a hF => ?_
    refine sv' hF (wy hF rfl rfl rfl) rfl rfl (R.nilP (hF.ev rfl) (hF.ev rfl) Try.underlying24) fun a hF => ?_
    refine sv' hF (wn rfl) rfl rfl (R.pickF (hF.ev rfl) (hF.ev rfl)) fun a hF => ?_
    refine s0 ?_
    refine then_n (hK5 _ _ ?_)
    refine cS hF rfl (fun c1 => ?_) (fun c1 => ?_)
    ·
      exact absurd c1 (by decide)
    ·
      refine wp_skip ?_
      refine then_n (hK4 _ _ ?_)
      refine wp_seq_k fun K6 hK6 => ?_
      refine wp_seq_k fun K7 hK7 => ?_
      refine wp_region_lit ?_
      refine sv' hF (wn rfl) rfl rfl (R.assign (hF.ev rfl)) fun a hF => ?_
      refine s0 ?_
      refine then_n (hK7 _ _ ?_)
      refine wp_block ?_
      refine wp_loop_N (fun g a w => ∃ (i : Nat) (V : Vau) (s : Seg), ps.length - i = g ∧ Fr 181 [(0, .slice A ps.length cap), (4, .pointer (some ⟨bv, 0, none⟩)), (5, .int .i64 (i : Nat))] a ∧ St w0 [] [s] w ∧ (VaultS bv V s) ∧ (i ≤ ps.length)) (ps.length - 0) ?_ ?_
      · exact ⟨0, Vau.new, _, rfl, hF.sub ⟨rfl, rfl, rfl, trivial⟩, hS.sel [0] rfl rfl, hV, by omega⟩
      · rintro KL1 g a w ⟨i, V, s, hg1, hF, hS, hV, hi⟩ hKL1
        refine wp_seq_k fun K8 hK8 => ?_
        refine wp_seq_k fun K9 hK9 => ?_
        refine wp_region_lit ?_
        refine sv' hF (wn rfl) rfl rfl (R.move (hF.ev rfl)) fun a hF => ?_
        refine sv' hF (wn rfl) rfl rfl (R.move (hF.ev rfl)) fun a hF => ?_
        refine sv' hF (wn rfl) rfl rfl (R.len Try.underlying22 (hF.ev rfl)) fun a hF => ?_
        refine sv' hF (wn rfl) rfl rfl (R.lss (hF.ev rfl) (hF.ev rfl)) fun a hF => ?_
        refine s0 ?_
        refine then_n (hK9 _ _ ?_)
        refine cD hF rfl (fun c2 => ?_) (fun c2 => ?_)
        ·
          obtain ⟨p, hp⟩ : ∃ p, ps[i]? = some p := ⟨_, List.getElem?_eq_getElem (by omega)⟩
          have hpo := hok p (List.mem_of_getElem? hp)
          have hH0 := hV.tH_lt
          have hL0 := hV.lock_lt
          have hO7 := OwnS.nil 4 1
          refine wp_skip ?_
          refine then_n (hK8 _ _ ?_)
          refine wp_seq_k fun K10 hK10 => ?_
          refine wp_block ?_
          refine wp_seq_k fun K11 hK11 => ?_
          refine wp_region_lit ?_
          refine sv' hF (wn rfl) rfl rfl (R.move (hF.ev rfl)) fun a hF => ?_
          refine so (wn rfl) (O.callK rfl rfl hF ent26 (hF.evs rfl) hS (look_calls bv _ _ _ hV (hS.own1 .h)) (fun _ => .h) fun v s32 a w hR hF hS => ?_)
          obtain ⟨rfl, he⟩ := hR
          rw [he] at hS
          refine so (wn rfl) (O.alloc rfl rfl hF ze44s rfl hS fun b6 a w hF hS => ?_)
          refine so (wn rfl) (O.storeW sz44 (hF.ev rfl) (hF.ev rfl) (length_look _ _ _) rfl (one_look _ _ _) hS .h ((length_look _ _ _).trans (length_seen _ _ _ _).symm) fun w hS => ?_)
          refine s0 ?_
          refine then_n (hK11 _ _ ?_)
          refine wp_seq_k fun K12 hK12 => ?_
          refine wp_region_lit ?_
          refine sv' hF (wn rfl) rfl rfl (R.assign (hF.ev rfl)) fun a hF => ?_
          refine s0 ?_
          refine then_n (hK12 _ _ ?_)
          refine wp_seq_k fun K13 hK13 => ?_
          have hK13' : ∀ a w, (∃ (j : Nat) (Ap : Option Addr) (cp : Nat) (sA : Seg), Fr 181 [(0, .slice A ps.length cap), (4, .pointer (some ⟨bv, 0, none⟩)), (5, .int .i64 (i : Nat)), (6, .pointer (some ⟨b6, 0, none⟩)), (7, .slice Ap j cp)] a ∧ St w0 [] [s, sA, [(b6, Cel (lookC V 64 V.lock) 44)]] w ∧ (OwnS sA Ap j cp (paidC V ps j) 4 1) ∧ (j ≤ ps.length)) → K13 a w := by
            rintro a w ⟨j, Ap, cp, sA, hF, hS, hO7, hj⟩
            refine hK13 _ _ ?_
            refine wp_seq_k fun K14 hK14 => ?_
            refine wp_region_lit ?_
            refine sv' hF (wn rfl) rfl rfl (R.move (hF.ev rfl)) fun a hF => ?_
            refine sv' hF (wn rfl) rfl rfl (R.move (hF.ev rfl)) fun a hF => ?_
            refine sv' hF (wn rfl) rfl rfl (R.move (hF.ev rfl)) fun a hF => ?_
            refine sv' hF (wn rfl) rfl rfl (R.indexO Try.underlying22 sz34 (hF.ev rfl) (stp_ne (hA.old hS) hp) (hF.ev rfl) (by omega) (by omega)) fun a hF => ?_
            refine sv' hF (wn rfl) rfl rfl (R.loadAO (cs := stpL p) agg34 (hF.ev rfl) (hA.old hS) sz34 rfl (Nat.succ_pos _) (fun j v h => stp_at hp h)) fun a hF => ?_
            refine so (wn rfl) (O.callK rfl rfl hF ent20 (hF.evs rfl) hS (changing_calls bv V p s _ hV (hS.own1 .h) hpo) (fun _ => .h) fun v s59 a w hR hF hS => ?_)
            obtain ⟨bb, rfl, hV⟩ := hR
            refine sv' hF (wn rfl) rfl rfl (R.move (hF.ev rfl)) fun a hF => ?_
            refine sv' hF (wn rfl) rfl rfl (R.extract (hF.ev rfl) rfl) fun a hF => ?_
            refine sv' hF (wn rfl) rfl rfl (R.extract (hF.ev rfl) rfl) fun a hF => ?_
            refine sv' hF (wn rfl) rfl rfl (R.assign (hF.ev rfl)) fun a hF => ?_
            refine sv' hF (wn rfl) rfl rfl (R.assign (hF.ev rfl)) fun a hF => ?_
            refine s0 ?_
            refine then_n (hK14 _ _ ?_)
            refine wp_seq_k fun K15 hK15 => ?_
            refine wp_region_lit ?_
            refine sv' hF (wn rfl) rfl rfl (R.move (hF.ev rfl)) fun a hF => ?_
            refine so (wn rfl) (O.callK rfl rfl hF ent26 (hF.evs rfl) hS (look_calls bv _ _ _ hV (hS.own1 .h)) (fun _ => .h) fun v s63 a w hR hF hS => ?_)
            obtain ⟨rfl, he⟩ := hR
            rw [he] at hS
            refine so (wn rfl) (O.alloc rfl rfl hF ze44s rfl hS fun b11 a w hF hS => ?_)
            refine so (wn rfl) (O.storeW sz44 (hF.ev rfl) (hF.ev rfl) (length_look _ _ _) rfl (one_look _ _ _) hS .h ((length_look _ _ _).trans (length_seen _ _ _ _).symm) fun w hS => ?_)
            refine s0 ?_
            refine then_n (hK15 _ _ ?_)
            refine wp_seq_k fun K16 hK16 => ?_
            refine wp_region_lit ?_
            refine sv' hF (wn rfl) rfl rfl (R.move (hF.ev rfl)) fun a hF => ?_
            refine sv' hF (wn rfl) rfl rfl (R.move (hF.ev rfl)) fun a hF => ?_
            refine sv' hF (wn rfl) rfl rfl (R.indexO Try.underlying22 sz34 (hF.ev rfl) (stp_ne (hA.old hS) hp) (hF.ev rfl) (by omega) (by omega)) fun a hF => ?_
            refine sv' hF (wn rfl) rfl rfl (R.fieldAddrO (m := 1) Try.underlying34 rfl nz3 (hF.ev rfl) (stp_ne (hA.old hS) hp) rfl) fun a hF => ?_
            refine sv' hF (wn rfl) rfl rfl (R.loadO one3 (hF.ev rfl) (hA.old hS) (stp_at hp rfl)) fun a hF => ?_
            refine so (wn rfl) (O.call rfl rfl hF ent21 (hF.evs rfl) hS (pick_calls p.what 11 _ hpo.what (by decide) (by decide)) fun v s69 a w hR hF hS => ?_)
            obtain ⟨rfl, rfl⟩ := hR
            refine sv' hF (wn rfl) rfl rfl (R.assign (hF.ev rfl)) fun a hF => ?_
            refine s0 ?_
            refine then_n (hK16 _ _ ?_)
            refine wp_seq_k fun K17 hK17 => ?_
            refine wp_seq_k fun K18 hK18 => ?_
            have hK18' : ∀ a w, (Fr 181 [(0, .slice A ps.length cap), (4, .pointer (some ⟨bv, 0, none⟩)), (5, .int .i64 (i : Nat)), (6, .pointer (some ⟨b6, 0, none⟩)), (7, .slice Ap j cp), (10, .int .i64 (V.chg p).2), (11, .pointer (some ⟨b11, 0, none⟩)), (12, .int .i64 (pickN p.what 11)), (76, .bool false)] a ∧ St w0 [] [s59, sA, [(b6, Cel (lookC V 64 V.lock) 44)], [(b11, Cel (lookC (V.chg p).1 64 (V.chg p).1.lock) 44)]] w) → K18 a w := by
              rintro a w ⟨hF, hS⟩
              refine hK18 _ _ ?_
              refine cS hF rfl (fun c4 => ?_) (fun c4 => ?_)
              ·
                exact absurd c4 (by decide)
              ·
                refine wp_skip ?_
                refine then_n (hK17 _ _ ?_)
                refine wp_seq_k fun K19 hK19 => ?_
                refine wp_seq_k fun K20 hK20 => ?_
                refine wp_region_lit ?_
                refine sv' hF (wn rfl) rfl rfl (R.assign (hF.ev rfl)) fun a hF => ?_
                refine s0 ?_
                refine then_n (hK20 _ _ ?_)
                refine wp_block ?_
                refine wp_loop_N (fun g a w => ∃ (q : Nat), j - q = g ∧ Fr 181 [(0, .slice A ps.length cap), (4, .pointer (some ⟨bv, 0, none⟩)), (5, .int .i64 (i : Nat)), (6, .pointer (some ⟨b6, 0, none⟩)), (7, .slice Ap j cp), (10, .int .i64 (V.chg p).2), (11, .pointer (some ⟨b11, 0, none⟩)), (12, .int .i64 (pickN p.what 11)), (13, .int .i64 (q : Nat))] a ∧ St w0 [] [s59, sA, [(b6, Cel (lookC V 64 V.lock) 44)], [(b11, Cel (lookC (V.chg p).1 64 (V.chg p).1.lock) 44)]] w ∧ (q ≤ j)) (j - 0) ?_ ?_
                · exact ⟨0, rfl, hF.sub ⟨rfl, rfl, rfl, rfl, rfl, rfl, rfl, rfl, rfl, trivial⟩, hS.sel [0, 1, 2, 3] rfl rfl, by omega⟩
                · rintro KL2 g a w ⟨q, hg2, hF, hS, hq⟩ hKL2
                  refine wp_seq_k fun K21 hK21 => ?_
                  refine wp_seq_k fun K22 hK22 => ?_
                  refine wp_region_lit ?_
                  refine sv' hF (wn rfl) rfl rfl (R.move (hF.ev rfl)) fun a hF => ?_
                  refine sv' hF (wn rfl) rfl rfl (R.move (hF.ev rfl)) fun a hF => ?_
                  refine sv' hF (wn rfl) rfl rfl (R.len Try.underlying46 (hF.ev rfl)) fun a hF => ?_
                  refine sv' hF (wn rfl) rfl rfl (R.lss (hF.ev rfl) (hF.ev rfl)) fun a hF => ?_
                  refine s0 ?_
                  refine then_n (hK22 _ _ ?_)
                  refine cD hF rfl (fun c5 => ?_) (fun c5 => ?_)
                  ·
                    obtain ⟨r, hr⟩ : ∃ r, ps[q]? = some r := ⟨_, List.getElem?_eq_getElem (by omega)⟩
                    refine wp_skip ?_
                    refine then_n (hK21 _ _ ?_)
                    refine wp_seq_k fun K23 hK23 => ?_
                    refine wp_block ?_
                    refine wp_seq_k fun K24 hK24 => ?_
                    have hK24' : ∀ a w, (∃ (mb : Bool), Fr 181 [(0, .slice A ps.length cap), (4, .pointer (some ⟨bv, 0, none⟩)), (5, .int .i64 (i : Nat)), (6, .pointer (some ⟨b6, 0, none⟩)), (7, .slice Ap j cp), (10, .int .i64 (V.chg p).2), (11, .pointer (some ⟨b11, 0, none⟩)), (12, .int .i64 (pickN p.what 11)), (13, .int .i64 (q : Nat)), (14, .bool mb)] a ∧ St w0 [] [s59, sA, [(b6, Cel (lookC V 64 V.lock) 44)], [(b11, Cel (lookC (V.chg p).1 64 (V.chg p).1.lock) 44)]] w ∧ ((V.chg p).1.paid r.index ≠ V.paid r.index → mb = true)) → K24 a w := by
                      rintro a w ⟨mb, hF, hS, hmb⟩
                      refine hK24 _ _ ?_
                      refine wp_seq_k fun K25 hK25 => ?_
                      refine wp_drawS hS [(0, 0), (1, 0), (2, 0), (3, 0), (4, 0), (5, 1), (7, 0), (8, 0), (9, 0), (10, 1), (6, 2), (11, 0), (12, 0), (13, 0), (14, 0), (15, 0)] mix (by kernel_rfl) (hP.then.block.then.then.block.then.block.then.then.block.then) fun w hS => ?_
                      have hD := hS
                      refine dq hF rfl (wn rfl) rfl rfl (fun w => R.move (hF.ev rfl)) fun a hF => ?_
                      refine dq hF rfl (wn rfl) rfl rfl (fun w => R.move (hF.ev rfl)) fun a hF => ?_
                      refine dq hF rfl (wn rfl) rfl rfl (fun w => R.move (hF.ev rfl)) fun a hF => ?_
                      refine dq hF rfl (wn rfl) rfl rfl (fun w => R.indexO Try.underlying22 sz34 (hF.ev rfl) (stp_ne (hA.old hS) hr) (hF.ev rfl) (by omega) (by omega)) fun a hF => ?_
                      refine dq hF rfl (wn rfl) rfl rfl (fun w => R.fieldAddrO (m := 3) Try.underlying34 rfl nz3 (hF.ev rfl) (stp_ne (hA.old hS) hr) rfl) fun a hF => ?_
                      refine dr hF rfl (wn rfl) rfl rfl hD (fun w hD => R.loadO one3 (hF.ev rfl) (hA.old hD) (stp_at hr rfl)) fun a hF => ?_
                      refine dq hF rfl (wn rfl) rfl rfl (fun w => R.move (hF.ev rfl)) fun a hF => ?_
                      refine dq hF rfl (wn rfl) rfl rfl (fun w => R.move (hF.ev rfl)) fun a hF => ?_
                      refine dq hF rfl (wn rfl) rfl rfl (fun w => R.indexO Try.underlying46 sz4 (hF.ev rfl) ((hO7.rd hS (.t .h)).ne (by rw [hO7.1]; omega)) (hF.ev rfl) (by omega) (by omega)) fun a hF => ?_
                      refine dr hF rfl (wn rfl) rfl rfl hD (fun w hD => R.loadO one4 (hF.ev rfl) (hO7.rd hD (.t .h)) (paidC_at' (by simp) hr (by omega))) fun a hF => ?_
                      refine dl rfl (wn rfl) (O.callK rfl rfl hF ent27 (hF.evs rfl) hS (paid_calls bv _ _ _ _ hV (hS.own1 .h)) (fun _ => .h) fun v s108 a w hR hF hS => ⟨fun hD => by obtain ⟨_, he⟩ := hR; rw [he] at hS; exact hS, ?_⟩)
                      obtain ⟨rfl, he⟩ := hR
                      rw [he] at hS
                      have hD := hS
                      refine dq hF rfl (wn rfl) rfl rfl (fun w => R.neqB (hF.ev rfl) (hF.ev rfl) Try.underlying4) fun a hF => ?_
                      refine dq hF rfl (wn rfl) rfl rfl (fun w => R.move (hF.ev rfl)) fun a hF => ?_
                      refine hF.splitD (t := 114) rfl (fun h114 hF => ?_) (fun h114 hF => ?_)
                      ·
                        refine dq hF rfl (wy hF rfl rfl rfl) rfl rfl (fun w => R.move (hF.ev rfl)) fun a hF => ?_
                        refine dq hF rfl (wy hF rfl rfl rfl) rfl rfl (fun w => (by first | exact R.notD (hF.ev rfl) | exact R.not (hF.ev rfl))) fun a hF => ?_
                        refine dq hF rfl (wn rfl) rfl rfl (fun w => R.pickT (hF.ev rfl) (hF.ev rfl)) fun a hF => ?_
                        refine d0 ?_
                        refine then_n (hK25 _ _ ?_)
                        refine cS hF rfl (fun c6 => ?_) (fun c6 => ?_)
                        ·
                          rw [hmb h114] at c6; exact absurd c6 (by decide)
                        ·
                          refine wp_skip ?_
                          refine blk_n ?_
                          refine then_n (hK23 _ _ ?_)
                          refine wp_region_lit ?_
                          refine sv' hF (wn rfl) rfl rfl (R.move (hF.ev rfl)) fun a hF => ?_
                          refine sv' hF (wn rfl) rfl rfl (R.addI (hF.ev rfl) (hF.ev rfl) (by omega)) fun a hF => ?_
                          refine sv' hF (wn rfl) rfl rfl (R.assign (hF.ev rfl)) fun a hF => ?_
                          refine s0 ?_
                          refine then_n (hKL2 (j - (q + 1)) _ _ ?_ ?_)
                          · omega
                          · exact ⟨q + 1, rfl, hF.sub ⟨rfl, rfl, rfl, rfl, rfl, rfl, rfl, rfl, rfl, trivial⟩, hS.sel [0, 1, 2, 3] rfl rfl, by omega⟩
                      ·
                        refine dk hF rfl (ws hF rfl rfl rfl rfl) rfl rfl fun a hF => ?_
                        refine dk hF rfl (ws hF rfl rfl rfl rfl) rfl rfl fun a hF => ?_
                        refine dq hF rfl (wn rfl) rfl rfl (fun w => R.pickF (hF.ev rfl) (hF.ev rfl)) fun a hF => ?_
                        refine d0 ?_
                        refine then_n (hK25 _ _ ?_)
                        refine cF hF rfl ?_
                        refine wp_skip ?_
                        refine blk_n ?_
                        refine then_n (hK23 _ _ ?_)
                        refine wp_region_lit ?_
                        refine sv' hF (wn rfl) rfl rfl (R.move (hF.ev rfl)) fun a hF => ?_
                        refine sv' hF (wn rfl) rfl rfl (R.addI (hF.ev rfl) (hF.ev rfl) (by omega)) fun a hF => ?_
                        refine sv' hF (wn rfl) rfl rfl (R.assign (hF.ev rfl)) fun a hF => ?_
                        refine s0 ?_
                        refine then_n (hKL2 (j - (q + 1)) _ _ ?_ ?_)
                        · omega
                        · exact ⟨q + 1, rfl, hF.sub ⟨rfl, rfl, rfl, rfl, rfl, rfl, rfl, rfl, rfl, trivial⟩, hS.sel [0, 1, 2, 3] rfl rfl, by omega⟩
                    refine wp_drawS hS [(0, 0), (1, 0), (2, 0), (3, 0), (4, 0), (5, 0), (6, 0), (7, 0), (8, 0), (9, 0), (10, 0), (11, 1), (12, 0), (13, 0), (14, 0), (15, 0), (16, 1), (17, 0), (18, 0), (19, 0)] mix (by kernel_rfl) (hP.then.block.then.then.block.then.block.then.then.block.then) fun w hS => ?_
                    have hD := hS
                    refine dq hF rfl (wn rfl) rfl rfl (fun w => R.move (hF.ev rfl)) fun a hF => ?_
                    refine dq hF rfl (wn rfl) rfl rfl (fun w => R.eql (hF.ev rfl) (hF.ev rfl)) fun a hF => ?_
                    refine dq hF rfl (wn rfl) rfl rfl (fun w => R.move (hF.ev rfl)) fun a hF => ?_
                    refine hF.splitD (t := 85) rfl (fun h85 hF => ?_) (fun h85 hF => ?_)
                    ·
                      refine dq hF rfl (wy hF rfl rfl rfl) rfl rfl (fun w => R.move (hF.ev rfl)) fun a hF => ?_
                      refine dq hF rfl (wy hF rfl rfl rfl) rfl rfl (fun w => R.eql (hF.ev rfl) (hF.ev rfl)) fun a hF => ?_
                      refine dq hF rfl (wn rfl) rfl rfl (fun w => R.pickT (hF.ev rfl) (hF.ev rfl)) fun a hF => ?_
                      refine dq hF rfl (wn rfl) rfl rfl (fun w => R.move (hF.ev rfl)) fun a hF => ?_
                      refine hF.splitD (t := 89) rfl (fun h89 hF => ?_) (fun h89 hF => ?_)
                      ·
                        refine dq hF rfl (wy hF rfl rfl rfl) rfl rfl (fun w => R.move (hF.ev rfl)) fun a hF => ?_
                        refine dq hF rfl (wy hF rfl rfl rfl) rfl rfl (fun w => R.move (hF.ev rfl)) fun a hF => ?_
                        refine dq hF rfl (wy hF rfl rfl rfl) rfl rfl (fun w => R.indexO Try.underlying22 sz34 (hF.ev rfl) (stp_ne (hA.old hS) hp) (hF.ev rfl) (by omega) (by omega)) fun a hF => ?_
                        refine dq hF rfl (wy hF rfl rfl rfl) rfl rfl (fun w => R.fieldAddrO (m := 3) Try.underlying34 rfl nz3 (hF.ev rfl) (stp_ne (hA.old hS) hp) rfl) fun a hF => ?_
                        refine dr hF rfl (wy hF rfl rfl rfl) rfl rfl hD (fun w hD => R.loadO one3 (hF.ev rfl) (hA.old hD) (stp_at hr rfl)) fun a hF => ?_
                        refine dq hF rfl (wy hF rfl rfl rfl) rfl rfl (fun w => R.move (hF.ev rfl)) fun a hF => ?_
                        refine dq hF rfl (wy hF rfl rfl rfl) rfl rfl (fun w => R.move (hF.ev rfl)) fun a hF => ?_
                        refine dq hF rfl (wy hF rfl rfl rfl) rfl rfl (fun w => R.indexO Try.underlying22 sz34 (hF.ev rfl) (stp_ne (hA.old hS) hp) (hF.ev rfl) (by omega) (by omega)) fun a hF => ?_
                        refine dq hF rfl (wy hF rfl rfl rfl) rfl rfl (fun w => R.fieldAddrO (m := 3) Try.underlying34 rfl nz3 (hF.ev rfl) (stp_ne (hA.old hS) hp) rfl) fun a hF => ?_
                        refine dr hF rfl (wy hF rfl rfl rfl) rfl rfl hD (fun w hD => R.loadO one3 (hF.ev rfl) (hA.old hD) (stp_at hp rfl)) fun a hF => ?_
                        refine dq hF rfl (wy hF rfl rfl rfl) rfl rfl (fun w => R.eql (hF.ev rfl) (hF.ev rfl)) fun a hF => ?_
                        refine dq hF rfl (wn rfl) rfl rfl (fun w => R.pickT (hF.ev rfl) (hF.ev rfl)) fun a hF => ?_
                        refine dq hF rfl (wn rfl) rfl rfl (fun w => R.assign (hF.ev rfl)) fun a hF => ?_
                        refine d0 ?_
                        exact then_n (hK24' _ _ ⟨decide (r.index = p.index), hF.sub ⟨rfl, rfl, rfl, rfl, rfl, rfl, rfl, rfl, rfl, rfl, trivial⟩, hS.sel [0, 1, 2, 3] rfl rfl, fun h => decide_eq_true (chgP h).2.2⟩)
                      ·
                        refine dk hF rfl (ws hF rfl rfl rfl rfl) rfl rfl fun a hF => ?_
                        refine dk hF rfl (ws hF rfl rfl rfl rfl) rfl rfl fun a hF => ?_
                        refine dk hF rfl (ws hF rfl rfl rfl rfl) rfl rfl fun a hF => ?_
                        refine dk hF rfl (ws hF rfl rfl rfl rfl) rfl rfl fun a hF => ?_
                        refine dk1 hF rfl (ws hF rfl rfl rfl rfl) rfl rfl hD fun a hF => ?_
                        refine dk hF rfl (ws hF rfl rfl rfl rfl) rfl rfl fun a hF => ?_
                        refine dk hF rfl (ws hF rfl rfl rfl rfl) rfl rfl fun a hF => ?_
                        refine dk hF rfl (ws hF rfl rfl rfl rfl) rfl rfl fun a hF => ?_
                        refine dk hF rfl (ws hF rfl rfl rfl rfl) rfl rfl fun a hF => ?_
                        refine dk1 hF rfl (ws hF rfl rfl rfl rfl) rfl rfl hD fun a hF => ?_
                        refine dk hF rfl (ws hF rfl rfl rfl rfl) rfl rfl fun a hF => ?_
                        refine dq hF rfl (wn rfl) rfl rfl (fun w => R.pickF (hF.ev rfl) (hF.ev rfl)) fun a hF => ?_
                        refine dq hF rfl (wn rfl) rfl rfl (fun w => R.assign (hF.ev rfl)) fun a hF => ?_
                        refine d0 ?_
                        exact then_n (hK24' _ _ ⟨false, hF.sub ⟨rfl, rfl, rfl, rfl, rfl, rfl, rfl, rfl, rfl, rfl, trivial⟩, hS.sel [0, 1, 2, 3] rfl rfl, fun h => absurd (chgP h).2.1 h89⟩)
                    ·
                      refine dk hF rfl (ws hF rfl rfl rfl rfl) rfl rfl fun a hF => ?_
                      refine dk hF rfl (ws hF rfl rfl rfl rfl) rfl rfl fun a hF => ?_
                      refine dq hF rfl (wn rfl) rfl rfl (fun w => R.pickF (hF.ev rfl) (hF.ev rfl)) fun a hF => ?_
                      refine dq hF rfl (wn rfl) rfl rfl (fun w => R.move (hF.ev rfl)) fun a hF => ?_
                      refine dk hF rfl (ws hF rfl rfl rfl rfl) rfl rfl fun a hF => ?_
                      refine dk hF rfl (ws hF rfl rfl rfl rfl) rfl rfl fun a hF => ?_
                      refine dk hF rfl (ws hF rfl rfl rfl rfl) rfl rfl fun a hF => ?_
                      refine dk hF rfl (ws hF rfl rfl rfl rfl) rfl rfl fun a hF => ?_
                      refine dk1 hF rfl (ws hF rfl rfl rfl rfl) rfl rfl hD fun a hF => ?_
                      refine dk hF rfl (ws hF rfl rfl rfl rfl) rfl rfl fun a hF => ?_
                      refine dk hF rfl (ws hF rfl rfl rfl rfl) rfl rfl fun a hF => ?_
                      refine dk hF rfl (ws hF rfl rfl rfl rfl) rfl rfl fun a hF => ?_
                      refine dk hF rfl (ws hF rfl rfl rfl rfl) rfl rfl fun a hF => ?_
                      refine dk1 hF rfl (ws hF rfl rfl rfl rfl) rfl rfl hD fun a hF => ?_
                      refine dk hF rfl (ws hF rfl rfl rfl rfl) rfl rfl fun a hF => ?_
                      refine dq hF rfl (wn rfl) rfl rfl (fun w => R.pickF (hF.ev rfl) (hF.ev rfl)) fun a hF => ?_
                      refine dq hF rfl (wn rfl) rfl rfl (fun w => R.assign (hF.ev rfl)) fun a hF => ?_
                      refine d0 ?_
                      exact then_n (hK24' _ _ ⟨false, hF.sub ⟨rfl, rfl, rfl, rfl, rfl, rfl, rfl, rfl, rfl, rfl, trivial⟩, hS.sel [0, 1, 2, 3] rfl rfl, fun h => absurd (chgP h).1 h85⟩)
                  ·
                    refine wp_exit (then_x (then_x (blk_hit ?_)))
                    refine then_n (hK19 _ _ ?_)
                    refine wp_seq_k fun K26 hK26 => ?_
                    refine wp_seq_k fun K27 hK27 => ?_
                    refine wp_region_lit ?_
                    refine sv' hF (wn rfl) rfl rfl (R.assign (hF.ev rfl)) fun a hF => ?_
                    refine s0 ?_
                    refine then_n (hK27 _ _ ?_)
                    refine wp_block ?_
                    refine wp_loop_N (fun g a w => ∃ (t : Nat), 64 - t = g ∧ Fr 181 [(0, .slice A ps.length cap), (4, .pointer (some ⟨bv, 0, none⟩)), (5, .int .i64 (i : Nat)), (6, .pointer (some ⟨b6, 0, none⟩)), (7, .slice Ap j cp), (10, .int .i64 (V.chg p).2), (11, .pointer (some ⟨b11, 0, none⟩)), (12, .int .i64 (pickN p.what 11)), (15, .int .i64 (t : Nat))] a ∧ St w0 [] [s59, sA, [(b6, Cel (lookC V 64 V.lock) 44)], [(b11, Cel (lookC (V.chg p).1 64 (V.chg p).1.lock) 44)]] w ∧ (t ≤ 64)) (64 - 0) ?_ ?_
                    · exact ⟨0, rfl, hF.sub ⟨rfl, rfl, rfl, rfl, rfl, rfl, rfl, rfl, rfl, trivial⟩, hS.sel [0, 1, 2, 3] rfl rfl, by omega⟩
                    · rintro KL3 g a w ⟨t, hg3, hF, hS, ht⟩ hKL3
                      refine wp_seq_k fun K28 hK28 => ?_
                      refine wp_seq_k fun K29 hK29 => ?_
                      refine wp_region_lit ?_
                      refine sv' hF (wn rfl) rfl rfl (R.move (hF.ev rfl)) fun a hF => ?_
                      refine sv' hF (wn rfl) rfl rfl (R.lss (hF.ev rfl) (hF.ev rfl)) fun a hF => ?_
                      refine s0 ?_
                      refine then_n (hK29 _ _ ?_)
                      refine cD hF rfl (fun c7 => ?_) (fun c7 => ?_)
                      ·
                        refine wp_skip ?_
                        refine then_n (hK28 _ _ ?_)
                        refine wp_seq_k fun K30 hK30 => ?_
                        refine wp_block ?_
                        refine wp_seq_k fun K31 hK31 => ?_
                        have hK31' : ∀ a w, (∃ (sm : Bool), Fr 181 [(0, .slice A ps.length cap), (4, .pointer (some ⟨bv, 0, none⟩)), (5, .int .i64 (i : Nat)), (6, .pointer (some ⟨b6, 0, none⟩)), (7, .slice Ap j cp), (10, .int .i64 (V.chg p).2), (11, .pointer (some ⟨b11, 0, none⟩)), (12, .int .i64 (pickN p.what 11)), (15, .int .i64 (t : Nat)), (16, .bool sm)] a ∧ St w0 [] [s59, sA, [(b6, Cel (lookC V 64 V.lock) 44)], [(b11, Cel (lookC (V.chg p).1 64 (V.chg p).1.lock) 44)]] w ∧ (sm = false → (t : Int) = p.token ∧ pickN p.what 11 ≤ 4)) → K31 a w := by
                          rintro a w ⟨sm, hF, hS, hsm⟩
                          refine hK31 _ _ ?_
                          refine wp_seq_k fun K32 hK32 => ?_
                          refine wp_region_lit ?_
                          refine sv' hF (wn rfl) rfl rfl (R.move (hF.ev rfl)) fun a hF => ?_
                          refine sv' hF (wn rfl) rfl rfl ((by first | exact R.notD (hF.ev rfl) | exact R.not (hF.ev rfl))) fun a hF => ?_
                          refine sv' hF (wn rfl) rfl rfl (R.move (hF.ev rfl)) fun a hF => ?_
                          refine hF.splitB (t := 155) rfl (fun h155 hF => ?_) (fun h155 hF => ?_)
                          ·
                            refine sv' hF (wy hF rfl rfl rfl) rfl rfl (R.move (hF.ev rfl)) fun a hF => ?_
                            refine sv' hF (wy hF rfl rfl rfl) rfl rfl (R.move (hF.ev rfl)) fun a hF => ?_
                            refine sv' hF (wy hF rfl rfl rfl) rfl rfl (R.move (hF.ev rfl)) fun a hF => ?_
                            refine sv' hF (wy hF rfl rfl rfl) rfl rfl (R.indexO Try.underlying22 sz34 (hF.ev rfl) (stp_ne (hA.old hS) hp) (hF.ev rfl) (by omega) (by omega)) fun a hF => ?_
                            refine sv' hF (wy hF rfl rfl rfl) rfl rfl (R.fieldAddrO (m := 2) Try.underlying34 rfl nz3 (hF.ev rfl) (stp_ne (hA.old hS) hp) rfl) fun a hF => ?_
                            refine sv' hF (wy hF rfl rfl rfl) rfl rfl (R.loadO one3 (hF.ev rfl) (hA.old hS) (stp_at hp rfl)) fun a hF => ?_
                            refine sv' hF (wy hF rfl rfl rfl) rfl rfl (R.neq (hF.ev rfl) (hF.ev rfl)) fun a hF => ?_
                            refine sv' hF (wy hF rfl rfl rfl) rfl rfl (R.move (hF.ev rfl)) fun a hF => ?_
                            refine hF.splitD (t := 163) rfl (fun h163 hF => ?_) (fun h163 hF => ?_)
                            ·
                              exact absurd (hsm (by simpa using h155)).1 h163
                            ·
                              refine sv' hF (wy hF rfl rfl rfl) rfl rfl (R.move (hF.ev rfl)) fun a hF => ?_
                              refine sv' hF (wy hF rfl rfl rfl) rfl rfl (R.gtr (hF.ev rfl) (hF.ev rfl)) fun a hF => ?_
                              refine sv' hF (wy hF rfl rfl rfl) rfl rfl (R.pickF (hF.ev rfl) (hF.ev rfl)) fun a hF => ?_
                              refine sv' hF (wn rfl) rfl rfl (R.pickT (hF.ev rfl) (hF.ev rfl)) fun a hF => ?_
                              refine s0 ?_
                              refine then_n (hK32 _ _ ?_)
                              refine cD hF rfl (fun c7 => ?_) (fun c7 => ?_)
                              ·
                                have := (hsm (by simpa using h155)).2; omega
                              ·
                                refine wp_skip ?_
                                refine blk_n ?_
                                refine then_n (hK30 _ _ ?_)
                                refine wp_region_lit ?_
                                refine sv' hF (wn rfl) rfl rfl (R.move (hF.ev rfl)) fun a hF => ?_
                                refine sv' hF (wn rfl) rfl rfl (R.addI (hF.ev rfl) (hF.ev rfl) (by omega)) fun a hF => ?_
                                refine sv' hF (wn rfl) rfl rfl (R.assign (hF.ev rfl)) fun a hF => ?_
                                refine s0 ?_
                                refine then_n (hKL3 (64 - (t + 1)) _ _ ?_ ?_)
                                · omega
                                · exact ⟨t + 1, rfl, hF.sub ⟨rfl, rfl, rfl, rfl, rfl, rfl, rfl, rfl, rfl, trivial⟩, hS.sel [0, 1, 2, 3] rfl rfl, by omega⟩
                          ·
                            refine sk hF (ws hF rfl rfl rfl rfl) rfl rfl fun a hF => ?_
                            refine sk hF (ws hF rfl rfl rfl rfl) rfl rfl fun a hF => ?_
                            refine sk hF (ws hF rfl rfl rfl rfl) rfl rfl fun a hF => ?_
                            refine sk hF (ws hF rfl rfl rfl rfl) rfl rfl fun a hF => ?_
                            refine sk hF (ws hF rfl rfl rfl rfl) rfl rfl fun a hF => ?_
                            refine sk hF (ws hF rfl rfl rfl rfl) rfl rfl fun a hF => ?_
                            refine sk hF (ws hF rfl rfl rfl rfl) rfl rfl fun a hF => ?_
                            refine sk hF (ws hF rfl rfl rfl rfl) rfl rfl fun a hF => ?_
                            refine sk hF (wu hF rfl rfl rfl) rfl rfl fun a hF => ?_
                            refine sk hF (wu hF rfl rfl rfl) rfl rfl fun a hF => ?_
                            refine sk hF (ws hF rfl rfl rfl rfl) rfl rfl fun a hF => ?_
                            refine sv' hF (wn rfl) rfl rfl (R.pickF (hF.ev rfl) (hF.ev rfl)) fun a hF => ?_
                            refine s0 ?_
                            refine then_n (hK32 _ _ ?_)
                            refine cF hF rfl ?_
                            refine wp_skip ?_
                            refine blk_n ?_
                            refine then_n (hK30 _ _ ?_)
                            refine wp_region_lit ?_
                            refine sv' hF (wn rfl) rfl rfl (R.move (hF.ev rfl)) fun a hF => ?_
                            refine sv' hF (wn rfl) rfl rfl (R.addI (hF.ev rfl) (hF.ev rfl) (by omega)) fun a hF => ?_
                            refine sv' hF (wn rfl) rfl rfl (R.assign (hF.ev rfl)) fun a hF => ?_
                            refine s0 ?_
                            refine then_n (hKL3 (64 - (t + 1)) _ _ ?_ ?_)
                            · omega
                            · exact ⟨t + 1, rfl, hF.sub ⟨rfl, rfl, rfl, rfl, rfl, rfl, rfl, rfl, rfl, trivial⟩, hS.sel [0, 1, 2, 3] rfl rfl, by omega⟩
                        refine wp_drawS hS [(0, 0), (1, 0), (2, 0), (3, 1), (4, 0), (5, 0), (6, 0), (7, 1), (8, 0), (9, 0), (10, 0), (11, 0), (12, 0), (13, 1), (14, 0), (15, 0), (16, 0), (17, 1), (18, 0), (19, 0), (20, 0), (21, 0), (22, 0), (23, 0), (24, 1), (25, 0), (26, 0), (27, 0), (28, 1), (29, 0), (30, 0), (31, 0)] mix (by kernel_rfl) (hP.then.block.then.then.block.then.block.then.then.block.then) fun w hS => ?_
                        have hD := hS
                        refine dq hF rfl (wn rfl) rfl rfl (fun w => R.move (hF.ev rfl)) fun a hF => ?_
                        refine dq hF rfl (wn rfl) rfl rfl (fun w => R.fieldAddr (k := 0) Try.underlying44 rfl nz41 (hF.ev rfl) rfl) fun a hF => ?_
                        refine dq hF rfl (wn rfl) rfl rfl (fun w => R.indexA Try.underlying41 sz4 (hF.ev rfl) (hF.ev rfl) (by omega) (by omega)) fun a hF => ?_
                        refine dr hF rfl (wn rfl) rfl rfl hD (fun w hD => R.load one4 (hF.ev rfl) hD (.t (.t (.t .h))) (look_L (t := t) (by simp) (by omega))) fun a hF => ?_
                        refine dq hF rfl (wn rfl) rfl rfl (fun w => R.move (hF.ev rfl)) fun a hF => ?_
                        refine dq hF rfl (wn rfl) rfl rfl (fun w => R.fieldAddr (k := 0) Try.underlying44 rfl nz41 (hF.ev rfl) rfl) fun a hF => ?_
                        refine dq hF rfl (wn rfl) rfl rfl (fun w => R.indexA Try.underlying41 sz4 (hF.ev rfl) (hF.ev rfl) (by omega) (by omega)) fun a hF => ?_
                        refine dr hF rfl (wn rfl) rfl rfl hD (fun w hD => R.load one4 (hF.ev rfl) hD (.t (.t .h)) (look_L (t := t) (by simp) (by omega))) fun a hF => ?_
                        refine dq hF rfl (wn rfl) rfl rfl (fun w => R.eqlB (hF.ev rfl) (hF.ev rfl) Try.underlying4) fun a hF => ?_
                        refine dq hF rfl (wn rfl) rfl rfl (fun w => R.move (hF.ev rfl)) fun a hF => ?_
                        refine hF.splitD (t := 131) rfl (fun h131 hF => ?_) (fun h131 hF => ?_)
                        ·
                          refine dq hF rfl (wy hF rfl rfl rfl) rfl rfl (fun w => R.move (hF.ev rfl)) fun a hF => ?_
                          refine dq hF rfl (wy hF rfl rfl rfl) rfl rfl (fun w => R.fieldAddr (k := 64) Try.underlying44 rfl nz41 (hF.ev rfl) rfl) fun a hF => ?_
                          refine dq hF rfl (wy hF rfl rfl rfl) rfl rfl (fun w => R.indexA Try.underlying41 sz4 (hF.ev rfl) (hF.ev rfl) (by omega) (by omega)) fun a hF => ?_
                          refine dr hF rfl (wy hF rfl rfl rfl) rfl rfl hD (fun w hD => R.load one4 (hF.ev rfl) hD (.t (.t (.t .h))) (look_S (t := t) (by simp) (by omega))) fun a hF => ?_
                          refine dq hF rfl (wy hF rfl rfl rfl) rfl rfl (fun w => R.move (hF.ev rfl)) fun a hF => ?_
                          refine dq hF rfl (wy hF rfl rfl rfl) rfl rfl (fun w => R.fieldAddr (k := 64) Try.underlying44 rfl nz41 (hF.ev rfl) rfl) fun a hF => ?_
                          refine dq hF rfl (wy hF rfl rfl rfl) rfl rfl (fun w => R.indexA Try.underlying41 sz4 (hF.ev rfl) (hF.ev rfl) (by omega) (by omega)) fun a hF => ?_
                          refine dr hF rfl (wy hF rfl rfl rfl) rfl rfl hD (fun w hD => R.load one4 (hF.ev rfl) hD (.t (.t .h)) (look_S (t := t) (by simp) (by omega))) fun a hF => ?_
                          refine dq hF rfl (wy hF rfl rfl rfl) rfl rfl (fun w => R.eqlB (hF.ev rfl) (hF.ev rfl) Try.underlying4) fun a hF => ?_
                          refine dq hF rfl (wn rfl) rfl rfl (fun w => R.pickT (hF.ev rfl) (hF.ev rfl)) fun a hF => ?_
                          refine dq hF rfl (wn rfl) rfl rfl (fun w => R.move (hF.ev rfl)) fun a hF => ?_
                          refine hF.splitD (t := 142) rfl (fun h142 hF => ?_) (fun h142 hF => ?_)
                          ·
                            refine dq hF rfl (wy hF rfl rfl rfl) rfl rfl (fun w => R.move (hF.ev rfl)) fun a hF => ?_
                            refine dq hF rfl (wy hF rfl rfl rfl) rfl rfl (fun w => R.fieldAddr (k := 128) Try.underlying44 rfl nz42 (hF.ev rfl) rfl) fun a hF => ?_
                            refine dq hF rfl (wy hF rfl rfl rfl) rfl rfl (fun w => R.indexA Try.underlying42 sz29 (hF.ev rfl) (hF.ev rfl) (by omega) (by omega)) fun a hF => ?_
                            refine dr hF rfl (wy hF rfl rfl rfl) rfl rfl hD (fun w hD => R.loadA (cs := wc (tH ((V.chg p).1.tok t))) agg29 (hF.ev rfl) hD (.t (.t (.t .h))) sz29 rfl (look_H (t := t) (by simp) (by omega))) fun a hF => ?_
                            refine dq hF rfl (wy hF rfl rfl rfl) rfl rfl (fun w => R.move (hF.ev rfl)) fun a hF => ?_
                            refine dq hF rfl (wy hF rfl rfl rfl) rfl rfl (fun w => R.fieldAddr (k := 128) Try.underlying44 rfl nz42 (hF.ev rfl) rfl) fun a hF => ?_
                            refine dq hF rfl (wy hF rfl rfl rfl) rfl rfl (fun w => R.indexA Try.underlying42 sz29 (hF.ev rfl) (hF.ev rfl) (by omega) (by omega)) fun a hF => ?_
                            refine dr hF rfl (wy hF rfl rfl rfl) rfl rfl hD (fun w hD => R.loadA (cs := wc (tH (V.tok t))) agg29 (hF.ev rfl) hD (.t (.t .h)) sz29 rfl (look_H (t := t) (by simp) (by omega))) fun a hF => ?_
                            refine dq hF rfl (wy hF rfl rfl rfl) rfl rfl (fun w => R.eqlW (x := tH ((V.chg p).1.tok t)) (y := tH (V.tok t)) (hF.ev rfl) (hF.ev rfl) (hV.tH_lt _) (hH0 _)) fun a hF => ?_
                            refine dq hF rfl (wn rfl) rfl rfl (fun w => R.pickT (hF.ev rfl) (hF.ev rfl)) fun a hF => ?_
                            refine dq hF rfl (wn rfl) rfl rfl (fun w => R.assign (hF.ev rfl)) fun a hF => ?_
                            refine d0 ?_
                            exact then_n (hK31' _ _ ⟨decide (tH ((V.chg p).1.tok t) = tH (V.tok t)), hF.sub ⟨rfl, rfl, rfl, rfl, rfl, rfl, rfl, rfl, rfl, rfl, trivial⟩, hS.sel [0, 1, 2, 3] rfl rfl, fun h => chgT (V := V) (fun e => (of_decide_eq_false h) (by rw [e]))⟩)
                          ·
                            refine dk hF rfl (ws hF rfl rfl rfl rfl) rfl rfl fun a hF => ?_
                            refine dk hF rfl (ws hF rfl rfl rfl rfl) rfl rfl fun a hF => ?_
                            refine dk hF rfl (ws hF rfl rfl rfl rfl) rfl rfl fun a hF => ?_
                            refine dk1 hF rfl (ws hF rfl rfl rfl rfl) rfl rfl hD fun a hF => ?_
                            refine dk hF rfl (ws hF rfl rfl rfl rfl) rfl rfl fun a hF => ?_
                            refine dk hF rfl (ws hF rfl rfl rfl rfl) rfl rfl fun a hF => ?_
                            refine dk hF rfl (ws hF rfl rfl rfl rfl) rfl rfl fun a hF => ?_
                            refine dk1 hF rfl (ws hF rfl rfl rfl rfl) rfl rfl hD fun a hF => ?_
                            refine dk hF rfl (ws hF rfl rfl rfl rfl) rfl rfl fun a hF => ?_
                            refine dq hF rfl (wn rfl) rfl rfl (fun w => R.pickF (hF.ev rfl) (hF.ev rfl)) fun a hF => ?_
                            refine dq hF rfl (wn rfl) rfl rfl (fun w => R.assign (hF.ev rfl)) fun a hF => ?_
                            refine d0 ?_
                            exact then_n (hK31' _ _ ⟨false, hF.sub ⟨rfl, rfl, rfl, rfl, rfl, rfl, rfl, rfl, rfl, rfl, trivial⟩, hS.sel [0, 1, 2, 3] rfl rfl, fun _ => chgT (V := V) (fun e => h142 (by rw [e]))⟩)
                        ·
                          refine dk hF rfl (ws hF rfl rfl rfl rfl) rfl rfl fun a hF => ?_
                          refine dk hF rfl (ws hF rfl rfl rfl rfl) rfl rfl fun a hF => ?_
                          refine dk hF rfl (ws hF rfl rfl rfl rfl) rfl rfl fun a hF => ?_
                          refine dk1 hF rfl (ws hF rfl rfl rfl rfl) rfl rfl hD fun a hF => ?_
                          refine dk hF rfl (ws hF rfl rfl rfl rfl) rfl rfl fun a hF => ?_
                          refine dk hF rfl (ws hF rfl rfl rfl rfl) rfl rfl fun a hF => ?_
                          refine dk hF rfl (ws hF rfl rfl rfl rfl) rfl rfl fun a hF => ?_
                          refine dk1 hF rfl (ws hF rfl rfl rfl rfl) rfl rfl hD fun a hF => ?_
                          refine dk hF rfl (ws hF rfl rfl rfl rfl) rfl rfl fun a hF => ?_
                          refine dq hF rfl (wn rfl) rfl rfl (fun w => R.pickF (hF.ev rfl) (hF.ev rfl)) fun a hF => ?_
                          refine dq hF rfl (wn rfl) rfl rfl (fun w => R.move (hF.ev rfl)) fun a hF => ?_
                          refine dk hF rfl (ws hF rfl rfl rfl rfl) rfl rfl fun a hF => ?_
                          refine dk hF rfl (ws hF rfl rfl rfl rfl) rfl rfl fun a hF => ?_
                          refine dk hF rfl (ws hF rfl rfl rfl rfl) rfl rfl fun a hF => ?_
                          refine dk1 hF rfl (ws hF rfl rfl rfl rfl) rfl rfl hD fun a hF => ?_
                          refine dk hF rfl (ws hF rfl rfl rfl rfl) rfl rfl fun a hF => ?_
                          refine dk hF rfl (ws hF rfl rfl rfl rfl) rfl rfl fun a hF => ?_
                          refine dk hF rfl (ws hF rfl rfl rfl rfl) rfl rfl fun a hF => ?_
                          refine dk1 hF rfl (ws hF rfl rfl rfl rfl) rfl rfl hD fun a hF => ?_
                          refine dk hF rfl (ws hF rfl rfl rfl rfl) rfl rfl fun a hF => ?_
                          refine dq hF rfl (wn rfl) rfl rfl (fun w => R.pickF (hF.ev rfl) (hF.ev rfl)) fun a hF => ?_
                          refine dq hF rfl (wn rfl) rfl rfl (fun w => R.assign (hF.ev rfl)) fun a hF => ?_
                          refine d0 ?_
                          exact then_n (hK31' _ _ ⟨false, hF.sub ⟨rfl, rfl, rfl, rfl, rfl, rfl, rfl, rfl, rfl, rfl, trivial⟩, hS.sel [0, 1, 2, 3] rfl rfl, fun _ => chgT (V := V) (fun e => h131 (by rw [e]))⟩)
                      ·
                        refine wp_exit (then_x (then_x (blk_hit ?_)))
                        refine then_n (hK26 _ _ ?_)
                        refine wp_seq_k fun K33 hK33 => ?_
                        refine wp_region_lit ?_
                        refine sv' hF (wn rfl) rfl rfl (R.fieldAddr (k := 384) Try.underlying44 rfl nz29 (hF.ev rfl) rfl) fun a hF => ?_
                        refine sv' hF (wn rfl) rfl rfl (R.loadA (cs := wc (V.chg p).1.lock) agg29 (hF.ev rfl) hS (.t (.t (.t .h))) sz29 rfl (look_K rfl)) fun a hF => ?_
                        refine sv' hF (wn rfl) rfl rfl (R.fieldAddr (k := 384) Try.underlying44 rfl nz29 (hF.ev rfl) rfl) fun a hF => ?_
                        refine sv' hF (wn rfl) rfl rfl (R.loadA (cs := wc V.lock) agg29 (hF.ev rfl) hS (.t (.t .h)) sz29 rfl (look_K rfl)) fun a hF => ?_
                        refine sv' hF (wn rfl) rfl rfl (R.neqW (x := (V.chg p).1.lock) (y := V.lock) (hF.ev rfl) (hF.ev rfl) hV.lock_lt hL0) fun a hF => ?_
                        refine sv' hF (wn rfl) rfl rfl (R.move (hF.ev rfl)) fun a hF => ?_
                        refine hF.splitD (t := 173) rfl (fun h173 hF => ?_) (fun h173 hF => ?_)
                        ·
                          refine sv' hF (wy hF rfl rfl rfl) rfl rfl (R.move (hF.ev rfl)) fun a hF => ?_
                          refine sv' hF (wy hF rfl rfl rfl) rfl rfl (R.neq (hF.ev rfl) (hF.ev rfl)) fun a hF => ?_
                          refine sv' hF (wn rfl) rfl rfl (R.pickT (hF.ev rfl) (hF.ev rfl)) fun a hF => ?_
                          refine sv' hF (wn rfl) rfl rfl (R.move (hF.ev rfl)) fun a hF => ?_
                          refine hF.splitD (t := 177) rfl (fun h177 hF => ?_) (fun h177 hF => ?_)
                          ·
                            refine sv' hF (wy hF rfl rfl rfl) rfl rfl (R.move (hF.ev rfl)) fun a hF => ?_
                            refine sv' hF (wy hF rfl rfl rfl) rfl rfl (R.neq (hF.ev rfl) (hF.ev rfl)) fun a hF => ?_
                            refine sv' hF (wn rfl) rfl rfl (R.pickT (hF.ev rfl) (hF.ev rfl)) fun a hF => ?_
                            refine s0 ?_
                            refine then_n (hK33 _ _ ?_)
                            refine cD hF rfl (fun c8 => ?_) (fun c8 => ?_)
                            ·
                              rcases chgL h173 with h | h <;> omega
                            ·
                              refine wp_skip ?_
                              refine blk_n ?_
                              refine then_n (hK10 _ _ ?_)
                              refine wp_region_lit ?_
                              refine sv' hF (wn rfl) rfl rfl (R.move (hF.ev rfl)) fun a hF => ?_
                              refine sv' hF (wn rfl) rfl rfl (R.addI (hF.ev rfl) (hF.ev rfl) (by omega)) fun a hF => ?_
                              refine sv' hF (wn rfl) rfl rfl (R.assign (hF.ev rfl)) fun a hF => ?_
                              refine s0 ?_
                              refine then_n (hKL1 (ps.length - (i + 1)) _ _ ?_ ?_)
                              · omega
                              · exact ⟨i + 1, (V.chg p).1, _, rfl, hF.sub ⟨rfl, rfl, rfl, trivial⟩, hS.sel [0] rfl rfl, hV, by omega⟩
                          ·
                            refine sk hF (ws hF rfl rfl rfl rfl) rfl rfl fun a hF => ?_
                            refine sk hF (ws hF rfl rfl rfl rfl) rfl rfl fun a hF => ?_
                            refine sv' hF (wn rfl) rfl rfl (R.pickF (hF.ev rfl) (hF.ev rfl)) fun a hF => ?_
                            refine s0 ?_
                            refine then_n (hK33 _ _ ?_)
                            refine cF hF rfl ?_
                            refine wp_skip ?_
                            refine blk_n ?_
                            refine then_n (hK10 _ _ ?_)
                            refine wp_region_lit ?_
                            refine sv' hF (wn rfl) rfl rfl (R.move (hF.ev rfl)) fun a hF => ?_
                            refine sv' hF (wn rfl) rfl rfl (R.addI (hF.ev rfl) (hF.ev rfl) (by omega)) fun a hF => ?_
                            refine sv' hF (wn rfl) rfl rfl (R.assign (hF.ev rfl)) fun a hF => ?_
                            refine s0 ?_
                            refine then_n (hKL1 (ps.length - (i + 1)) _ _ ?_ ?_)
                            · omega
                            · exact ⟨i + 1, (V.chg p).1, _, rfl, hF.sub ⟨rfl, rfl, rfl, trivial⟩, hS.sel [0] rfl rfl, hV, by omega⟩
                        ·
                          refine sk hF (ws hF rfl rfl rfl rfl) rfl rfl fun a hF => ?_
                          refine sk hF (ws hF rfl rfl rfl rfl) rfl rfl fun a hF => ?_
                          refine sv' hF (wn rfl) rfl rfl (R.pickF (hF.ev rfl) (hF.ev rfl)) fun a hF => ?_
                          refine sv' hF (wn rfl) rfl rfl (R.move (hF.ev rfl)) fun a hF => ?_
                          refine sk hF (ws hF rfl rfl rfl rfl) rfl rfl fun a hF => ?_
                          refine sk hF (ws hF rfl rfl rfl rfl) rfl rfl fun a hF => ?_
                          refine sv' hF (wn rfl) rfl rfl (R.pickF (hF.ev rfl) (hF.ev rfl)) fun a hF => ?_
                          refine s0 ?_
                          refine then_n (hK33 _ _ ?_)
                          refine cF hF rfl ?_
                          refine wp_skip ?_
                          refine blk_n ?_
                          refine then_n (hK10 _ _ ?_)
                          refine wp_region_lit ?_
                          refine sv' hF (wn rfl) rfl rfl (R.move (hF.ev rfl)) fun a hF => ?_
                          refine sv' hF (wn rfl) rfl rfl (R.addI (hF.ev rfl) (hF.ev rfl) (by omega)) fun a hF => ?_
                          refine sv' hF (wn rfl) rfl rfl (R.assign (hF.ev rfl)) fun a hF => ?_
                          refine s0 ?_
                          refine then_n (hKL1 (ps.length - (i + 1)) _ _ ?_ ?_)
                          · omega
                          · exact ⟨i + 1, (V.chg p).1, _, rfl, hF.sub ⟨rfl, rfl, rfl, trivial⟩, hS.sel [0] rfl rfl, hV, by omega⟩
            refine wp_region_lit ?_
            refine sv' hF (wn rfl) rfl rfl (R.move (hF.ev rfl)) fun a hF => ?_
            refine sv' hF (wn rfl) rfl rfl (R.neq (hF.ev rfl) (hF.ev rfl)) fun a hF => ?_
            refine sv' hF (wn rfl) rfl rfl (R.move (hF.ev rfl)) fun a hF => ?_
            refine hF.splitD (t := 72) rfl (fun h72 hF => ?_) (fun h72 hF => ?_)
            ·
              have eV := chgE h72
              refine sv' hF (wy hF rfl rfl rfl) rfl rfl (R.loadW agg44 (hF.ev rfl) hS (.t .h) sz44 (length_look _ _ _)) fun a hF => ?_
              refine sv' hF (wy hF rfl rfl rfl) rfl rfl (R.loadW agg44 (hF.ev rfl) hS (.t (.t (.t (.t .h)))) sz44 (length_look _ _ _)) fun a hF => ?_
              refine sv' hF (wy hF rfl rfl rfl) rfl rfl (R.neq44 (V := V) (n := 64) (k := V.lock) ((hF.ev rfl).trans (by rw [eV])) (hF.ev rfl) hH0 hL0) fun a hF => ?_
              refine sv' hF (wn rfl) rfl rfl (R.pickT (hF.ev rfl) (hF.ev rfl)) fun a hF => ?_
              refine s0 ?_
              exact then_n (hK18' _ _ ⟨hF.sub ⟨rfl, rfl, rfl, rfl, rfl, rfl, rfl, rfl, rfl, trivial⟩, hS.sel [2, 3, 4, 1] rfl rfl⟩)
            ·
              refine sk hF (ws hF rfl rfl rfl rfl) rfl rfl fun a hF => ?_
              refine sk hF (ws hF rfl rfl rfl rfl) rfl rfl fun a hF => ?_
              refine sk hF (ws hF rfl rfl rfl rfl) rfl rfl fun a hF => ?_
              refine sv' hF (wn rfl) rfl rfl (R.pickF (hF.ev rfl) (hF.ev rfl)) fun a hF => ?_
              refine s0 ?_
              exact then_n (hK18' _ _ ⟨hF.sub ⟨rfl, rfl, rfl, rfl, rfl, rfl, rfl, rfl, rfl, trivial⟩, hS.sel [2, 3, 4, 1] rfl rfl⟩)
          refine wp_seq_k fun K34 hK34 => ?_
          have hS := hS.cons0
          refine wp_region_lit ?_
          refine sv' hF (wn rfl) rfl rfl (R.assign (hF.ev rfl)) fun a hF => ?_
          refine s0 ?_
          refine then_n (hK34 _ _ ?_)
          refine wp_block ?_
          refine wp_loop_N (fun g a w => ∃ (j : Nat) (Ap : Option Addr) (cp : Nat) (sA : Seg), ps.length - j = g ∧ Fr 181 [(0, .slice A ps.length cap), (4, .pointer (some ⟨bv, 0, none⟩)), (5, .int .i64 (i : Nat)), (6, .pointer (some ⟨b6, 0, none⟩)), (7, .slice Ap j cp), (8, .int .i64 (j : Nat))] a ∧ St w0 [] [s, sA, [(b6, Cel (lookC V 64 V.lock) 44)]] w ∧ (OwnS sA Ap j cp (paidC V ps j) 4 1) ∧ (j ≤ ps.length) ∧ (j ≤ 40)) (ps.length - 0) ?_ ?_
          · exact ⟨0, none, 0, [], rfl, hF.sub ⟨rfl, rfl, rfl, rfl, rfl, rfl, trivial⟩, hS.sel [2, 0, 1] rfl rfl, hO7, by omega, by omega⟩
          · rintro KL4 g a w ⟨j, Ap, cp, sA, hg4, hF, hS, hO7, hj, hj40⟩ hKL4
            refine wp_seq_k fun K35 hK35 => ?_
            refine wp_seq_k fun K36 hK36 => ?_
            refine wp_region_lit ?_
            refine sv' hF (wn rfl) rfl rfl (R.move (hF.ev rfl)) fun a hF => ?_
            refine sv' hF (wn rfl) rfl rfl (R.move (hF.ev rfl)) fun a hF => ?_
            refine sv' hF (wn rfl) rfl rfl (R.len Try.underlying22 (hF.ev rfl)) fun a hF => ?_
            refine sv' hF (wn rfl) rfl rfl (R.lss (hF.ev rfl) (hF.ev rfl)) fun a hF => ?_
            refine sv' hF (wn rfl) rfl rfl (R.move (hF.ev rfl)) fun a hF => ?_
            refine hF.splitD (t := 37) rfl (fun h37 hF => ?_) (fun h37 hF => ?_)
            ·
              refine sv' hF (wy hF rfl rfl rfl) rfl rfl (R.move (hF.ev rfl)) fun a hF => ?_
              refine sv' hF (wy hF rfl rfl rfl) rfl rfl (R.lss (hF.ev rfl) (hF.ev rfl)) fun a hF => ?_
              refine sv' hF (wn rfl) rfl rfl (R.pickT (hF.ev rfl) (hF.ev rfl)) fun a hF => ?_
              refine s0 ?_
              refine then_n (hK36 _ _ ?_)
              refine cD hF rfl (fun c3 => ?_) (fun c3 => ?_)
              ·
                obtain ⟨r, hr⟩ : ∃ r, ps[j]? = some r := ⟨_, List.getElem?_eq_getElem (by omega)⟩
                refine wp_skip ?_
                refine then_n (hK35 _ _ ?_)
                refine wp_seq_k fun K37 hK37 => ?_
                refine wp_block ?_
                refine wp_region_lit ?_
                refine sv' hF (wn rfl) rfl rfl (R.move (hF.ev rfl)) fun a hF => ?_
                refine sv' hF (wn rfl) rfl rfl (R.move (hF.ev rfl)) fun a hF => ?_
                refine sv' hF (wn rfl) rfl rfl (R.move (hF.ev rfl)) fun a hF => ?_
                refine sv' hF (wn rfl) rfl rfl (R.move (hF.ev rfl)) fun a hF => ?_
                refine sv' hF (wn rfl) rfl rfl (R.indexO Try.underlying22 sz34 (hF.ev rfl) (stp_ne (hA.old hS) hp) (hF.ev rfl) (by omega) (by omega)) fun a hF => ?_
                refine sv' hF (wn rfl) rfl rfl (R.fieldAddrO (m := 3) Try.underlying34 rfl nz3 (hF.ev rfl) (stp_ne (hA.old hS) hp) rfl) fun a hF => ?_
                refine sv' hF (wn rfl) rfl rfl (R.loadO one3 (hF.ev rfl) (hA.old hS) (stp_at hr rfl)) fun a hF => ?_
                refine so (wn rfl) (O.callK rfl rfl hF ent27 (hF.evs rfl) hS (paid_calls bv _ _ _ _ hV (hS.own1 .h)) (fun _ => .h) fun v s50 a w hR hF hS => ?_)
                obtain ⟨rfl, he⟩ := hR
                rw [he] at hS
                refine so (wn rfl) (O.buildSlice (l := [_]) rfl rfl hF Try.underlying46 inf4 rfl rfl (hF.evp rfl) (by decide) rfl hS fun b51 a w hF hS => ?_)
                refine so (wn rfl) (O.append rfl rfl hF Try.underlying46 inf4 rfl rfl (by decide) (hF.ev rfl) (hF.ev rfl) hS hO7 (fun _ => (.t (.t .h))) (Rd.own0 hS .h) (rfl) (by simp [Value.oneCell']) (by unfold maxLen; omega) (by omega) fun A52 c52 s52 a w hO52 hF hS => ?_)
                rw [paidC_succ hr] at hO52
                refine sv' hF (wn rfl) rfl rfl (R.assign (hF.ev rfl)) fun a hF => ?_
                refine s0 ?_
                refine blk_n ?_
                refine then_n (hK37 _ _ ?_)
                refine wp_region_lit ?_
                refine sv' hF (wn rfl) rfl rfl (R.move (hF.ev rfl)) fun a hF => ?_
                refine sv' hF (wn rfl) rfl rfl (R.addI (hF.ev rfl) (hF.ev rfl) (by omega)) fun a hF => ?_
                refine sv' hF (wn rfl) rfl rfl (R.assign (hF.ev rfl)) fun a hF => ?_
                refine s0 ?_
                refine then_n (hKL4 (ps.length - (j + 1)) _ _ ?_ ?_)
                · omega
                · exact ⟨j + 1, _, _, _, rfl, hF.sub ⟨rfl, rfl, rfl, rfl, rfl, rfl, trivial⟩, hS.sel [1, 2, 3] rfl rfl, hO52, by omega, by omega⟩
              ·
                refine wp_exit (then_x (then_x (blk_hit ?_)))
                exact then_n (hK13' _ _ ⟨j, Ap, cp, sA, hF.sub ⟨rfl, rfl, rfl, rfl, rfl, trivial⟩, hS.sel [0, 1, 2] rfl rfl, hO7, hj⟩)
            ·
              refine sk hF (ws hF rfl rfl rfl rfl) rfl rfl fun a hF => ?_
              refine sk hF (ws hF rfl rfl rfl rfl) rfl rfl fun a hF => ?_
              refine sv' hF (wn rfl) rfl rfl (R.pickF (hF.ev rfl) (hF.ev rfl)) fun a hF => ?_
              refine s0 ?_
              refine then_n (hK36 _ _ ?_)
              refine cF hF rfl ?_
              refine wp_exit (then_x (then_x (blk_hit ?_)))
              exact then_n (hK13' _ _ ⟨j, Ap, cp, sA, hF.sub ⟨rfl, rfl, rfl, rfl, rfl, trivial⟩, hS.sel [0, 1, 2] rfl rfl, hO7, hj⟩)
        ·
          refine wp_exit (then_x (then_x (blk_hit ?_)))
          refine then_n (hK6 _ _ ?_)
          refine wp_seq_k fun K38 hK38 => ?_
          refine wp_region_lit ?_
          refine sv' hF (wn rfl) rfl rfl (R.assign (hF.ev rfl)) fun a hF => ?_
          refine s0 ?_
          refine then_n (hK38 _ _ ?_)
          refine wp_ret (hR _ _ _ _ _ hF (run_results Try.results4 (.t hF rfl (.nil))) ?_)
          exact ⟨_, [], rfl, ⟨rfl, rfl⟩, hS.none⟩

end Go.Proofs.Ythgecfjpacebeaa
