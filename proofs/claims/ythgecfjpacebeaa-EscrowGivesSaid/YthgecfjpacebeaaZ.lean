/- The calls of EscrowGives. -/
import Derived.Test.YthgecfjpacebeaaY
namespace Go.Proofs.Ythgecfjpacebeaa
open Go Go.Fw Go.RowKit
attribute [local irreducible] Go.Oper.wp Go.Code.wp Go.wpList Go.Fw.WL Go.Calls
theorem escrowGives_calls (tok idx : Int) (x y : Nat) (w0 : World) (h1 : i64OK tok) (h2 : i64OK idx) (hx : x < 115792089237316195423570985008687907853269984665640564039457584007913129639936) (hy : y < 115792089237316195423570985008687907853269984665640564039457584007913129639936) : Ret Try.prog 5 [.agg (.int .i64 tok :: .int .i64 idx :: (wc x ++ wc y)).toArray] w0 [] (fun v s => v = .bool true ∧ s = []) := by
  refine fn_start Try.func5 rfl Try.ntmps5 rfl [(0, .agg (.int .i64 tok :: .int .i64 idx :: (wc x ++ wc y)).toArray)] ⟨rfl, trivial⟩ ?_
  intro Q a hP hF hR hN
  have hS := St.start w0
  refine wp_seq_k fun K1 hK1 => ?_
  refine wp_region_lit ?_
  refine so (wn rfl) (O.box rfl rfl hF (hF.ev rfl) rfl hS fun b1 a w hF hS => ?_)
  refine sv' hF (wn rfl) rfl rfl (R.assign (hF.ev rfl)) fun a hF => ?_
  refine s0 ?_
  refine then_n (hK1 _ _ ?_)
  refine wp_seq_k fun K2 hK2 => ?_
  refine wp_region_lit ?_
  refine so (wn rfl) (O.call rfl rfl hF ent18 (hF.evs rfl) hS (known_calls _) fun v s18 a w hR hF hS => ?_)
  obtain ⟨rfl, rfl⟩ := hR
  refine sv' hF (wn rfl) rfl rfl (R.assign (hF.ev rfl)) fun a hF => ?_
  refine s0 ?_
  refine then_n (hK2 _ _ ?_)
  refine wp_seq_k fun K3 hK3 => ?_
  refine wp_region_lit ?_
  refine so (wn rfl) (O.call rfl rfl hF ent19 (hF.evs rfl) hS (new_calls _) fun v s19 a w hR hF hS => ?_)
  obtain ⟨bv, rfl, hV⟩ := hR
  refine sv' hF (wn rfl) rfl rfl (R.assign (hF.ev rfl)) fun a hF => ?_
  refine s0 ?_
  refine then_n (hK3 _ _ ?_)
  refine wp_seq_k fun K4 hK4 => ?_
  refine wp_seq_k fun K5 hK5 => ?_
  refine wp_region_lit ?_
  refine sv' hF (wn rfl) rfl rfl (R.move (hF.ev rfl)) fun a hF => ?_
  refine sv' hF (wn rfl) rfl rfl ((by first | exact R.notD (hF.ev rfl) | exact R.not (hF.ev rfl))) fun a hF => ?_
  refine sv' hF (wn rfl) rfl rfl (R.move (hF.ev rfl)) fun a hF => ?_
  refine hF.splitB (t := 22) rfl (fun h22 hF => ?_) (fun h22 hF => ?_)
  ·
    exact absurd h22 (by decide)
  ·
    refine sv' hF (wy hF rfl rfl rfl) rfl rfl (R.move (hF.ev rfl)) fun a hF => ?_
    refine sv' hF (wy hF rfl rfl rfl) rfl rfl (R.nilP (hF.ev rfl) (hF.ev rfl) Try.underlying24) fun a hF => ?_
    refine sv' hF (wn rfl) rfl rfl (R.pickF (hF.ev rfl) (hF.ev rfl)) fun a hF => ?_
    refine s0 ?_
    refine then_n (hK5 _ _ ?_)
    refine cS hF rfl (fun c1 => ?_) (fun c1 => ?_)
    ·
      exact absurd c1 (by decide)
    ·
      refine wp_skip ?_
      refine then_n (hK4 _ _ ?_)
      refine wp_seq_k fun K6 hK6 => ?_
      refine wp_region_lit ?_
      refine sv' hF (wn rfl) rfl rfl (R.fieldAddr (k := 0) Try.underlying49 rfl nz3 (hF.ev rfl) rfl) fun a hF => ?_
      refine sv' hF (wn rfl) rfl rfl (R.load one3 (hF.ev rfl) hS (.t (.t .h)) (rfl)) fun a hF => ?_
      refine so (wn rfl) (O.call rfl rfl hF ent21 (hF.evs rfl) hS (pick_calls tok 64 _ h1 (by decide) (by decide)) fun v s28 a w hR hF hS => ?_)
      obtain ⟨rfl, rfl⟩ := hR
      refine sv' hF (wn rfl) rfl rfl (R.assign (hF.ev rfl)) fun a hF => ?_
      refine s0 ?_
      refine then_n (hK6 _ _ ?_)
      refine wp_seq_k fun K7 hK7 => ?_
      refine wp_region_lit ?_
      refine sv' hF (wn rfl) rfl rfl (R.fieldAddr (k := 1) Try.underlying49 rfl nz3 (hF.ev rfl) rfl) fun a hF => ?_
      refine sv' hF (wn rfl) rfl rfl (R.load one3 (hF.ev rfl) hS (.t (.t (.t .h))) (rfl)) fun a hF => ?_
      refine so (wn rfl) (O.call rfl rfl hF ent21 (hF.evs rfl) hS (pick_calls idx 1099511627776 _ h2 (by decide) (by decide)) fun v s31 a w hR hF hS => ?_)
      obtain ⟨rfl, rfl⟩ := hR
      have i0 := pickN_0 idx (n := 1099511627776) (by decide); have i1 := pickN_lt idx (n := 1099511627776) (by decide)
      refine sv' hF (wn rfl) rfl rfl (R.assign (hF.ev rfl)) fun a hF => ?_
      have hG := gift_says (t := pickN tok 64) (i := pickN idx 1099511627776) (j := pickN idx 1099511627776 / 2 + 549755813888 * (1 - pickN idx 1099511627776 / 549755813888)) (a := x) (b := y) (pickN_0 _ (by decide)) (pickN_lt _ (by decide)) i0 i1 (by omega) (by omega) (by omega) hx
      refine s0 ?_
      refine then_n (hK7 _ _ ?_)
      refine wp_seq_k fun K8 hK8 => ?_
      refine wp_region_lit ?_
      refine sv' hF (wn rfl) rfl rfl (R.fieldAddr (k := 2) Try.underlying49 rfl nz29 (hF.ev rfl) rfl) fun a hF => ?_
      refine sv' hF (wn rfl) rfl rfl (R.loadA (cs := wc x) agg29 (hF.ev rfl) hS (.t (.t (.t (.t .h)))) sz29 rfl (getAt rfl)) fun a hF => ?_
      refine so (wn rfl) (O.alloc rfl rfl hF ze29 rfl hS fun b7 a w hF hS => ?_)
      refine so (wn rfl) (O.storeW sz29 (hF.ev rfl) (hF.ev rfl) rfl rfl (by simp [Value.oneCell']) hS .h rfl fun w hS => ?_)
      refine s0 ?_
      refine then_n (hK8 _ _ ?_)
      refine wp_seq_k fun K9 hK9 => ?_
      refine wp_region_lit ?_
      refine sv' hF (wn rfl) rfl rfl (R.fieldAddr (k := 6) Try.underlying49 rfl nz29 (hF.ev rfl) rfl) fun a hF => ?_
      refine sv' hF (wn rfl) rfl rfl (R.loadA (cs := wc y) agg29 (hF.ev rfl) hS (.t (.t (.t (.t (.t .h))))) sz29 rfl (getAt rfl)) fun a hF => ?_
      refine so (wn rfl) (O.alloc rfl rfl hF ze29 rfl hS fun b8 a w hF hS => ?_)
      refine so (wn rfl) (O.storeW sz29 (hF.ev rfl) (hF.ev rfl) rfl rfl (by simp [Value.oneCell']) hS .h rfl fun w hS => ?_)
      refine s0 ?_
      refine then_n (hK9 _ _ ?_)
      refine wp_seq_k fun K10 hK10 => ?_
      refine wp_region_lit ?_
      refine sv' hF (wn rfl) rfl rfl (R.move (hF.ev rfl)) fun a hF => ?_
      refine sv' hF (wn rfl) rfl rfl (R.move (hF.ev rfl)) fun a hF => ?_
      refine so (wn rfl) (O.callK rfl rfl hF ent28 (hF.evs rfl) hS (list_calls bv _ _ _ _ hV (hS.own1 (.t (.t (.t (.t .h)))))) (fun _ => (.t (.t (.t (.t .h))))) fun v s38 a w hR hF hS => ?_)
      obtain ⟨hv, hV⟩ := hR
      rw [hG.e] at hv; subst hv
      refine sv' hF (wn rfl) rfl rfl (R.assign (hF.ev rfl)) fun a hF => ?_
      refine s0 ?_
      refine then_n (hK10 _ _ ?_)
      refine wp_seq_k fun K11 hK11 => ?_
      refine wp_region_lit ?_
      refine sv' hF (wn rfl) rfl rfl (R.move (hF.ev rfl)) fun a hF => ?_
      refine sv' hF (wn rfl) rfl rfl (R.move (hF.ev rfl)) fun a hF => ?_
      refine sv' hF (wn rfl) rfl rfl (R.loadW agg29 (hF.ev rfl) hS (.t .h) sz29 rfl) fun a hF => ?_
      refine so (wn rfl) (O.callK rfl rfl hF ent29 (hF.evs rfl) hS (deposit_calls bv _ _ x _ _ hV (hS.own1 (.t (.t (.t (.t .h))))) hx) (fun _ => (.t (.t (.t (.t .h))))) fun v s42 a w hR hF hS => ?_)
      obtain ⟨hv, hV⟩ := hR
      rw [hG.f] at hv; subst hv
      refine sv' hF (wn rfl) rfl rfl (R.assign (hF.ev rfl)) fun a hF => ?_
      refine s0 ?_
      refine then_n (hK11 _ _ ?_)
      refine wp_seq_k fun K12 hK12 => ?_
      refine wp_region_lit ?_
      refine sv' hF (wn rfl) rfl rfl (R.move (hF.ev rfl)) fun a hF => ?_
      refine sv' hF (wn rfl) rfl rfl (R.move (hF.ev rfl)) fun a hF => ?_
      refine sv' hF (wn rfl) rfl rfl (R.move (hF.ev rfl)) fun a hF => ?_
      refine sv' hF (wn rfl) rfl rfl (R.loadW agg29 (hF.ev rfl) hS .h sz29 rfl) fun a hF => ?_
      refine so (wn rfl) (O.callK rfl rfl hF ent30 (hF.evs rfl) hS (pay_calls bv _ _ _ y _ _ hV (hS.own1 (.t (.t (.t (.t .h))))) hy) (fun _ => (.t (.t (.t (.t .h))))) fun v s47 a w hR hF hS => ?_)
      obtain ⟨hv, hV⟩ := hR
      rw [hG.g] at hv; subst hv
      refine sv' hF (wn rfl) rfl rfl (R.assign (hF.ev rfl)) fun a hF => ?_
      refine s0 ?_
      refine then_n (hK12 _ _ ?_)
      refine wp_seq_k fun K13 hK13 => ?_
      refine wp_region_lit ?_
      refine sv' hF (wn rfl) rfl rfl (R.loadW agg29 (hF.ev rfl) hS (.t .h) sz29 rfl) fun a hF => ?_
      refine sv' hF (wn rfl) rfl rfl (R.loadW agg29 (hF.ev rfl) hS .h sz29 rfl) fun a hF => ?_
      refine so (wn rfl) (O.call rfl rfl hF ent31 (hF.evs rfl) hS (rcmp_calls x y _ hx hy) fun v s50 a w hR hF hS => ?_)
      obtain ⟨rfl, rfl⟩ := hR
      refine sv' hF (wn rfl) rfl rfl (R.as (R.lss (hF.ev rfl) (hF.ev rfl)) (show Value.bool (decide (cmpN x y < 0)) = .bool (decide (x < y)) by congr 1; exact decide_eq_decide.2 (cmp_lt x y))) fun a hF => ?_
      refine sv' hF (wn rfl) rfl rfl (R.assign (hF.ev rfl)) fun a hF => ?_
      refine s0 ?_
      refine then_n (hK13 _ _ ?_)
      refine wp_seq_k fun K14 hK14 => ?_
      have hK14' : ∀ a w, (Fr 139 [(1, .pointer (some ⟨b1, 0, none⟩)), (4, .pointer (some ⟨bv, 0, none⟩)), (5, .int .i64 (pickN tok 64)), (6, .int .i64 (pickN idx 1099511627776)), (7, .pointer (some ⟨b7, 0, none⟩)), (8, .pointer (some ⟨b8, 0, none⟩)), (11, .int .i64 (if y ≤ x then 0 else 146)), (12, .bool (decide (x < y)))] a ∧ St w0 [] [s47, [(b7, Cel (wc x) 29)], [(b8, Cel (wc y) 29)]] w) → K14 a w := by
        rintro a w ⟨hF, hS⟩
        refine hK14 _ _ ?_
        refine wp_seq_k fun K15 hK15 => ?_
        have hK15' : ∀ a w, (Fr 139 [(4, .pointer (some ⟨bv, 0, none⟩)), (5, .int .i64 (pickN tok 64)), (6, .int .i64 (pickN idx 1099511627776)), (7, .pointer (some ⟨b7, 0, none⟩)), (8, .pointer (some ⟨b8, 0, none⟩)), (12, .bool (decide (x < y)))] a ∧ St w0 [] [s47, [(b7, Cel (wc x) 29)], [(b8, Cel (wc y) 29)]] w) → K15 a w := by
          rintro a w ⟨hF, hS⟩
          refine hK15 _ _ ?_
          refine wp_seq_k fun K16 hK16 => ?_
          refine wp_region_lit ?_
          refine sv' hF (wn rfl) rfl rfl (R.move (hF.ev rfl)) fun a hF => ?_
          refine sv' hF (wn rfl) rfl rfl (R.move (hF.ev rfl)) fun a hF => ?_
          refine so (wn rfl) (O.callK rfl rfl hF ent32 (hF.evs rfl) hS (stop_calls bv _ _ true _ _ hV (hS.own1 .h)) (fun _ => .h) fun v s95 a w hR hF hS => ?_)
          obtain ⟨hv, hV⟩ := hR
          rw [hG.h] at hv; subst hv
          refine sv' hF (wn rfl) rfl rfl (R.assign (hF.ev rfl)) fun a hF => ?_
          refine s0 ?_
          refine then_n (hK16 _ _ ?_)
          refine wp_seq_k fun K17 hK17 => ?_
          refine wp_region_lit ?_
          refine sv' hF (wn rfl) rfl rfl (R.move (hF.ev rfl)) fun a hF => ?_
          refine sv' hF (wn rfl) rfl rfl (R.move (hF.ev rfl)) fun a hF => ?_
          refine so (wn rfl) (O.callK rfl rfl hF ent25 (hF.evs rfl) hS (held_calls bv _ _ _ _ hV (hS.own1 .h)) (fun _ => .h) fun v s98 a w hR hF hS => ?_)
          obtain ⟨hv, he⟩ := hR
          rw [he] at hS; subst hv
          refine so (wn rfl) (O.alloc rfl rfl hF ze29 rfl hS fun b14 a w hF hS => ?_)
          refine so (wn rfl) (O.storeW sz29 (hF.ev rfl) (hF.ev rfl) rfl rfl (by simp [Value.oneCell']) hS .h rfl fun w hS => ?_)
          refine s0 ?_
          refine then_n (hK17 _ _ ?_)
          refine wp_seq_k fun K18 hK18 => ?_
          refine wp_region_lit ?_
          refine sv' hF (wn rfl) rfl rfl (R.move (hF.ev rfl)) fun a hF => ?_
          refine sv' hF (wn rfl) rfl rfl (R.move (hF.ev rfl)) fun a hF => ?_
          refine sv' hF (wn rfl) rfl rfl (R.quoI (hF.ev rfl) (hF.ev rfl) (by omega)) fun a hF => ?_
          refine sv' hF (wn rfl) rfl rfl (R.move (hF.ev rfl)) fun a hF => ?_
          refine sv' hF (wn rfl) rfl rfl (R.quoI (hF.ev rfl) (hF.ev rfl) (by omega)) fun a hF => ?_
          refine sv' hF (wn rfl) rfl rfl (R.subI (hF.ev rfl) (hF.ev rfl) (by omega)) fun a hF => ?_
          refine sv' hF (wn rfl) rfl rfl (R.mulI (hF.ev rfl) (hF.ev rfl) (by omega)) fun a hF => ?_
          refine sv' hF (wn rfl) rfl rfl (R.addI (hF.ev rfl) (hF.ev rfl) (by omega)) fun a hF => ?_
          refine sv' hF (wn rfl) rfl rfl (R.move (hF.ev rfl)) fun a hF => ?_
          refine sv' hF (wn rfl) rfl rfl (R.loadW agg29 (hF.ev rfl) hS .h sz29 rfl) fun a hF => ?_
          refine so (wn rfl) (O.callK rfl rfl hF ent30 (hF.evs rfl) hS (pay_calls bv _ _ _ _ _ _ hV (hS.own1 (.t .h)) (hV.tH_lt _)) (fun _ => (.t .h)) fun v s109 a w hR hF hS => ?_)
          obtain ⟨hv, hV⟩ := hR
          rw [hG.x] at hv; subst hv
          refine sv' hF (wn rfl) rfl rfl (R.assign (hF.ev rfl)) fun a hF => ?_
          refine s0 ?_
          refine then_n (hK18 _ _ ?_)
          refine wp_seq_k fun K19 hK19 => ?_
          refine wp_region_lit ?_
          refine sv' hF (wn rfl) rfl rfl (R.move (hF.ev rfl)) fun a hF => ?_
          refine sv' hF (wn rfl) rfl rfl (R.loadW agg29 (hF.ev rfl) hS (.t (.t .h)) sz29 rfl) fun a hF => ?_
          refine so (wn rfl) (O.callK rfl rfl hF ent33 (hF.evs rfl) hS (lock_calls bv _ x _ _ hV (hS.own1 (.t .h)) hx) (fun _ => (.t .h)) fun v s112 a w hR hF hS => ?_)
          obtain ⟨hv, hV⟩ := hR
          rw [hG.y] at hv; subst hv
          refine sv' hF (wn rfl) rfl rfl (R.assign (hF.ev rfl)) fun a hF => ?_
          refine s0 ?_
          refine then_n (hK19 _ _ ?_)
          refine wp_seq_k fun K20 hK20 => ?_
          refine wp_region_lit ?_
          refine sv' hF (wn rfl) rfl rfl (R.move (hF.ev rfl)) fun a hF => ?_
          refine sv' hF (wn rfl) rfl rfl (R.loadW agg29 (hF.ev rfl) hS (.t (.t (.t .h))) sz29 rfl) fun a hF => ?_
          refine so (wn rfl) (O.callK rfl rfl hF ent34 (hF.evs rfl) hS (free_calls bv _ y _ _ hV (hS.own1 (.t .h)) hy) (fun _ => (.t .h)) fun v s115 a w hR hF hS => ?_)
          obtain ⟨hv, hV⟩ := hR
          rw [hG.u] at hv; subst hv
          refine sv' hF (wn rfl) rfl rfl (R.assign (hF.ev rfl)) fun a hF => ?_
          refine s0 ?_
          refine then_n (hK20 _ _ ?_)
          refine wp_seq_k fun K21 hK21 => ?_
          refine wp_region_lit ?_
          refine sv' hF (wn rfl) rfl rfl (R.move (hF.ev rfl)) fun a hF => ?_
          refine sv' hF (wn rfl) rfl rfl (R.eql (hF.ev rfl) (hF.ev rfl)) fun a hF => ?_
          refine sv' hF (wn rfl) rfl rfl (R.move (hF.ev rfl)) fun a hF => ?_
          refine hF.splitD (t := 118) rfl (fun h118 hF => ?_) (fun h118 hF => ?_)
          ·
            refine sv' hF (wy hF rfl rfl rfl) rfl rfl (R.move (hF.ev rfl)) fun a hF => ?_
            refine sv' hF (wy hF rfl rfl rfl) rfl rfl (R.eql (hF.ev rfl) (hF.ev rfl)) fun a hF => ?_
            refine sv' hF (wn rfl) rfl rfl (R.pickT (hF.ev rfl) (hF.ev rfl)) fun a hF => ?_
            refine sv' hF (wn rfl) rfl rfl (R.move (hF.ev rfl)) fun a hF => ?_
            refine hF.splitD (t := 122) rfl (fun h122 hF => ?_) (fun h122 hF => ?_)
            ·
              refine sv' hF (wy hF rfl rfl rfl) rfl rfl (R.move (hF.ev rfl)) fun a hF => ?_
              refine sv' hF (wy hF rfl rfl rfl) rfl rfl (R.move (hF.ev rfl)) fun a hF => ?_
              refine so (wy hF rfl rfl rfl) (O.callK rfl rfl hF ent25 (hF.evs rfl) hS (held_calls bv _ _ _ _ hV (hS.own1 (.t .h))) (fun _ => (.t .h)) fun v s125 a w hR hF hS => ?_)
              obtain ⟨hv, he⟩ := hR
              rw [he] at hS; rw [hG.z] at hv; subst hv
              refine sv' hF (wy hF rfl rfl rfl) rfl rfl (R.buildArr (l := wc 0) Try.underlying29 ze29 sz27 (hF.evp rfl) rfl) fun a hF => ?_
              refine sv' hF (wy hF rfl rfl rfl) rfl rfl (R.eqlW (x := 0) (y := 0) (hF.ev rfl) (hF.ev rfl) (by decide) (by decide)) fun a hF => ?_
              refine sv' hF (wn rfl) rfl rfl (R.pickT (hF.ev rfl) (hF.ev rfl)) fun a hF => ?_
              refine sv' hF (wn rfl) rfl rfl (R.move (hF.ev rfl)) fun a hF => ?_
              refine hF.splitD (t := 129) rfl (fun h129 hF => ?_) (fun h129 hF => ?_)
              ·
                refine sv' hF (wy hF rfl rfl rfl) rfl rfl (R.move (hF.ev rfl)) fun a hF => ?_
                refine sv' hF (wy hF rfl rfl rfl) rfl rfl (R.eql (hF.ev rfl) (hF.ev rfl)) fun a hF => ?_
                refine sv' hF (wn rfl) rfl rfl (R.pickT (hF.ev rfl) (hF.ev rfl)) fun a hF => ?_
                refine sv' hF (wn rfl) rfl rfl (R.move (hF.ev rfl)) fun a hF => ?_
                refine hF.splitD (t := 133) rfl (fun h133 hF => ?_) (fun h133 hF => ?_)
                ·
                  refine sv' hF (wy hF rfl rfl rfl) rfl rfl (R.move (hF.ev rfl)) fun a hF => ?_
                  refine sv' hF (wy hF rfl rfl rfl) rfl rfl (R.eql (hF.ev rfl) (hF.ev rfl)) fun a hF => ?_
                  refine sv' hF (wy hF rfl rfl rfl) rfl rfl (R.move (hF.ev rfl)) fun a hF => ?_
                  refine sv' hF (wy hF rfl rfl rfl) rfl rfl (R.as (R.eqlB (hF.ev rfl) (hF.ev rfl) Try.underlying4) (show Value.bool (decide (decide ((if y ≤ x then (0 : Int) else 149) = 149) = decide (x < y))) = .bool true by congr 1; by_cases h : y ≤ x <;> simp [h] <;> omega)) fun a hF => ?_
                  refine sv' hF (wn rfl) rfl rfl (R.pickT (hF.ev rfl) (hF.ev rfl)) fun a hF => ?_
                  refine sv' hF (wn rfl) rfl rfl (R.assign (hF.ev rfl)) fun a hF => ?_
                  refine s0 ?_
                  refine then_n (hK21 _ _ ?_)
                  refine wp_ret (hR _ _ _ _ _ hF (run_results Try.results5 (.t hF rfl (.nil))) ?_)
                  exact ⟨_, [], rfl, ⟨rfl, rfl⟩, hS.none⟩
                ·
                  exact absurd rfl h133
              ·
                exact absurd rfl h129
            ·
              exact absurd rfl h122
          ·
            exact absurd rfl h118
        refine wp_seq_k fun K22 hK22 => ?_
        refine wp_region_lit ?_
        refine sv' hF (wn rfl) rfl rfl (R.move (hF.ev rfl)) fun a hF => ?_
        refine sv' hF (wn rfl) rfl rfl (R.move (hF.ev rfl)) fun a hF => ?_
        refine hF.splitD (t := 73) rfl (fun h73 hF => ?_) (fun h73 hF => ?_)
        ·
          rw [if_neg (show ¬ y ≤ x by omega)] at hF
          refine sv' hF (wy hF rfl rfl rfl) rfl rfl (R.move (hF.ev rfl)) fun a hF => ?_
          refine sv' hF (wy hF rfl rfl rfl) rfl rfl (R.neq (hF.ev rfl) (hF.ev rfl)) fun a hF => ?_
          refine sv' hF (wn rfl) rfl rfl (R.pickT (hF.ev rfl) (hF.ev rfl)) fun a hF => ?_
          refine sv' hF (wn rfl) rfl rfl (R.move (hF.ev rfl)) fun a hF => ?_
          refine hF.splitD (t := 77) rfl (fun h77 hF => ?_) (fun h77 hF => ?_)
          ·
            exact absurd rfl h77
          ·
            refine sv' hF (wy hF rfl rfl rfl) rfl rfl (R.move (hF.ev rfl)) fun a hF => ?_
            refine sv' hF (wy hF rfl rfl rfl) rfl rfl ((by first | exact R.notD (hF.ev rfl) | exact R.not (hF.ev rfl))) fun a hF => ?_
            refine sv' hF (wy hF rfl rfl rfl) rfl rfl (R.move (hF.ev rfl)) fun a hF => ?_
            refine hF.splitD (t := 80) rfl (fun h80 hF => ?_) (fun h80 hF => ?_)
            ·
              exact absurd h73 h80
            ·
              refine sk hF (ws hF rfl rfl rfl rfl) rfl rfl fun a hF => ?_
              refine sk hF (ws hF rfl rfl rfl rfl) rfl rfl fun a hF => ?_
              refine sv' hF (wy hF rfl rfl rfl) rfl rfl (R.pickF (hF.ev rfl) (hF.ev rfl)) fun a hF => ?_
              refine sv' hF (wn rfl) rfl rfl (R.pickF (hF.ev rfl) (hF.ev rfl)) fun a hF => ?_
              refine sv' hF (wn rfl) rfl rfl (R.move (hF.ev rfl)) fun a hF => ?_
              refine sv' hF (wy hF rfl rfl rfl) rfl rfl (R.move (hF.ev rfl)) fun a hF => ?_
              refine sv' hF (wy hF rfl rfl rfl) rfl rfl (R.move (hF.ev rfl)) fun a hF => ?_
              refine so (wy hF rfl rfl rfl) (O.callK rfl rfl hF ent27 (hF.evs rfl) hS (paid_calls bv _ _ _ _ hV (hS.own1 .h)) (fun _ => .h) fun v s88 a w hR hF hS => ?_)
              obtain ⟨hv, he⟩ := hR
              rw [he] at hS; rw [hG.p] at hv; subst hv
              refine sv' hF (wy hF rfl rfl rfl) rfl rfl (R.move (hF.ev rfl)) fun a hF => ?_
              refine sv' hF (wy hF rfl rfl rfl) rfl rfl ((by first | exact R.notD (hF.ev rfl) | exact R.not (hF.ev rfl))) fun a hF => ?_
              refine sv' hF (wy hF rfl rfl rfl) rfl rfl (R.as (R.neqB (hF.ev rfl) (hF.ev rfl) Try.underlying4) (show Value.bool (decide (decide (y ≤ x) ≠ decide (¬ x < y))) = .bool false by congr 1; have : decide (y ≤ x) = decide (¬ x < y) := decide_eq_decide.2 (by omega); simp [this])) fun a hF => ?_
              refine sv' hF (wn rfl) rfl rfl (R.pickF (hF.ev rfl) (hF.ev rfl)) fun a hF => ?_
              refine s0 ?_
              refine then_n (hK22 _ _ ?_)
              refine cS hF rfl (fun c3 => ?_) (fun c3 => ?_)
              ·
                exact absurd c3 (by decide)
              ·
                refine wp_skip ?_
                exact then_n (hK15' _ _ ⟨hF.sub ⟨rfl, rfl, rfl, rfl, rfl, rfl, trivial⟩, hS.sel [0, 1, 2] rfl rfl⟩)
        ·
          rw [if_pos (show y ≤ x by omega)] at hF
          refine sk hF (ws hF rfl rfl rfl rfl) rfl rfl fun a hF => ?_
          refine sk hF (ws hF rfl rfl rfl rfl) rfl rfl fun a hF => ?_
          refine sv' hF (wn rfl) rfl rfl (R.pickF (hF.ev rfl) (hF.ev rfl)) fun a hF => ?_
          refine sv' hF (wn rfl) rfl rfl (R.move (hF.ev rfl)) fun a hF => ?_
          refine sv' hF (wy hF rfl rfl rfl) rfl rfl (R.move (hF.ev rfl)) fun a hF => ?_
          refine sv' hF (wy hF rfl rfl rfl) rfl rfl ((by first | exact R.notD (hF.ev rfl) | exact R.not (hF.ev rfl))) fun a hF => ?_
          refine sv' hF (wy hF rfl rfl rfl) rfl rfl (R.move (hF.ev rfl)) fun a hF => ?_
          refine hF.splitD (t := 80) rfl (fun h80 hF => ?_) (fun h80 hF => ?_)
          ·
            refine sv' hF (wy hF rfl rfl rfl) rfl rfl (R.move (hF.ev rfl)) fun a hF => ?_
            refine sv' hF (wy hF rfl rfl rfl) rfl rfl (R.neq (hF.ev rfl) (hF.ev rfl)) fun a hF => ?_
            refine sv' hF (wy hF rfl rfl rfl) rfl rfl (R.pickT (hF.ev rfl) (hF.ev rfl)) fun a hF => ?_
            refine sv' hF (wn rfl) rfl rfl (R.pickF (hF.ev rfl) (hF.ev rfl)) fun a hF => ?_
            refine sv' hF (wn rfl) rfl rfl (R.move (hF.ev rfl)) fun a hF => ?_
            refine hF.splitD (t := 85) rfl (fun h85 hF => ?_) (fun h85 hF => ?_)
            ·
              exact absurd rfl h85
            ·
              refine sv' hF (wy hF rfl rfl rfl) rfl rfl (R.move (hF.ev rfl)) fun a hF => ?_
              refine sv' hF (wy hF rfl rfl rfl) rfl rfl (R.move (hF.ev rfl)) fun a hF => ?_
              refine so (wy hF rfl rfl rfl) (O.callK rfl rfl hF ent27 (hF.evs rfl) hS (paid_calls bv _ _ _ _ hV (hS.own1 .h)) (fun _ => .h) fun v s88 a w hR hF hS => ?_)
              obtain ⟨hv, he⟩ := hR
              rw [he] at hS; rw [hG.p] at hv; subst hv
              refine sv' hF (wy hF rfl rfl rfl) rfl rfl (R.move (hF.ev rfl)) fun a hF => ?_
              refine sv' hF (wy hF rfl rfl rfl) rfl rfl ((by first | exact R.notD (hF.ev rfl) | exact R.not (hF.ev rfl))) fun a hF => ?_
              refine sv' hF (wy hF rfl rfl rfl) rfl rfl (R.as (R.neqB (hF.ev rfl) (hF.ev rfl) Try.underlying4) (show Value.bool (decide (decide (y ≤ x) ≠ decide (¬ x < y))) = .bool false by congr 1; have : decide (y ≤ x) = decide (¬ x < y) := decide_eq_decide.2 (by omega); simp [this])) fun a hF => ?_
              refine sv' hF (wn rfl) rfl rfl (R.pickF (hF.ev rfl) (hF.ev rfl)) fun a hF => ?_
              refine s0 ?_
              refine then_n (hK22 _ _ ?_)
              refine cS hF rfl (fun c3 => ?_) (fun c3 => ?_)
              ·
                exact absurd c3 (by decide)
              ·
                refine wp_skip ?_
                exact then_n (hK15' _ _ ⟨hF.sub ⟨rfl, rfl, rfl, rfl, rfl, rfl, trivial⟩, hS.sel [0, 1, 2] rfl rfl⟩)
          ·
            exact absurd h73 h80
      refine wp_seq_k fun K23 hK23 => ?_
      refine wp_region_lit ?_
      refine sv' hF (wn rfl) rfl rfl (R.loadW agg29 (hF.ev rfl) hS (.t (.t .h)) sz29 rfl) fun a hF => ?_
      refine sv' hF (wn rfl) rfl rfl (R.buildArr (l := wc 0) Try.underlying29 ze29 sz27 (hF.evp rfl) rfl) fun a hF => ?_
      refine sv' hF (wn rfl) rfl rfl (R.eqlW (x := x) (y := 0) (hF.ev rfl) (hF.ev rfl) hx (by decide)) fun a hF => ?_
      refine sv' hF (wn rfl) rfl rfl (R.move (hF.ev rfl)) fun a hF => ?_
      refine hF.splitD (t := 55) rfl (fun h55 hF => ?_) (fun h55 hF => ?_)
      ·
        rw [if_pos h55] at hF
        refine sv' hF (wy hF rfl rfl rfl) rfl rfl (R.move (hF.ev rfl)) fun a hF => ?_
        refine sv' hF (wy hF rfl rfl rfl) rfl rfl (R.neq (hF.ev rfl) (hF.ev rfl)) fun a hF => ?_
        refine sv' hF (wn rfl) rfl rfl (R.pickT (hF.ev rfl) (hF.ev rfl)) fun a hF => ?_
        refine sv' hF (wn rfl) rfl rfl (R.move (hF.ev rfl)) fun a hF => ?_
        refine hF.splitD (t := 59) rfl (fun h59 hF => ?_) (fun h59 hF => ?_)
        ·
          exact absurd rfl h59
        ·
          refine sv' hF (wy hF rfl rfl rfl) rfl rfl (R.loadW agg29 (hF.ev rfl) hS (.t (.t .h)) sz29 rfl) fun a hF => ?_
          refine sv' hF (wy hF rfl rfl rfl) rfl rfl (R.buildArr (l := wc 0) Try.underlying29 ze29 sz27 (hF.evp rfl) rfl) fun a hF => ?_
          refine sv' hF (wy hF rfl rfl rfl) rfl rfl (R.neqW (x := x) (y := 0) (hF.ev rfl) (hF.ev rfl) hx (by decide)) fun a hF => ?_
          refine sv' hF (wy hF rfl rfl rfl) rfl rfl (R.move (hF.ev rfl)) fun a hF => ?_
          refine hF.splitD (t := 63) rfl (fun h63 hF => ?_) (fun h63 hF => ?_)
          ·
            exact absurd h55 h63
          ·
            refine sk hF (ws hF rfl rfl rfl rfl) rfl rfl fun a hF => ?_
            refine sk hF (ws hF rfl rfl rfl rfl) rfl rfl fun a hF => ?_
            refine sv' hF (wy hF rfl rfl rfl) rfl rfl (R.pickF (hF.ev rfl) (hF.ev rfl)) fun a hF => ?_
            refine sv' hF (wn rfl) rfl rfl (R.pickF (hF.ev rfl) (hF.ev rfl)) fun a hF => ?_
            refine sv' hF (wn rfl) rfl rfl (R.move (hF.ev rfl)) fun a hF => ?_
            refine sv' hF (wy hF rfl rfl rfl) rfl rfl (R.move (hF.ev rfl)) fun a hF => ?_
            refine sv' hF (wy hF rfl rfl rfl) rfl rfl (R.neq (hF.ev rfl) (hF.ev rfl)) fun a hF => ?_
            refine sv' hF (wn rfl) rfl rfl (R.pickF (hF.ev rfl) (hF.ev rfl)) fun a hF => ?_
            refine s0 ?_
            refine then_n (hK23 _ _ ?_)
            refine cD hF rfl (fun c2 => ?_) (fun c2 => ?_)
            ·
              exact absurd rfl c2
            ·
              refine wp_skip ?_
              exact then_n (hK14' _ _ ⟨hF.sub ⟨rfl, rfl, rfl, rfl, rfl, rfl, rfl, rfl, trivial⟩, hS.sel [5, 2, 1] rfl rfl⟩)
      ·
        rw [if_neg h55] at hF
        refine sk hF (ws hF rfl rfl rfl rfl) rfl rfl fun a hF => ?_
        refine sk hF (ws hF rfl rfl rfl rfl) rfl rfl fun a hF => ?_
        refine sv' hF (wn rfl) rfl rfl (R.pickF (hF.ev rfl) (hF.ev rfl)) fun a hF => ?_
        refine sv' hF (wn rfl) rfl rfl (R.move (hF.ev rfl)) fun a hF => ?_
        refine sv' hF (wy hF rfl rfl rfl) rfl rfl (R.loadW agg29 (hF.ev rfl) hS (.t (.t .h)) sz29 rfl) fun a hF => ?_
        refine sv' hF (wy hF rfl rfl rfl) rfl rfl (R.buildArr (l := wc 0) Try.underlying29 ze29 sz27 (hF.evp rfl) rfl) fun a hF => ?_
        refine sv' hF (wy hF rfl rfl rfl) rfl rfl (R.neqW (x := x) (y := 0) (hF.ev rfl) (hF.ev rfl) hx (by decide)) fun a hF => ?_
        refine sv' hF (wy hF rfl rfl rfl) rfl rfl (R.move (hF.ev rfl)) fun a hF => ?_
        refine hF.splitD (t := 63) rfl (fun h63 hF => ?_) (fun h63 hF => ?_)
        ·
          refine sv' hF (wy hF rfl rfl rfl) rfl rfl (R.move (hF.ev rfl)) fun a hF => ?_
          refine sv' hF (wy hF rfl rfl rfl) rfl rfl (R.neq (hF.ev rfl) (hF.ev rfl)) fun a hF => ?_
          refine sv' hF (wy hF rfl rfl rfl) rfl rfl (R.pickT (hF.ev rfl) (hF.ev rfl)) fun a hF => ?_
          refine sv' hF (wn rfl) rfl rfl (R.pickF (hF.ev rfl) (hF.ev rfl)) fun a hF => ?_
          refine sv' hF (wn rfl) rfl rfl (R.move (hF.ev rfl)) fun a hF => ?_
          refine hF.splitD (t := 68) rfl (fun h68 hF => ?_) (fun h68 hF => ?_)
          ·
            exact absurd rfl h68
          ·
            refine sv' hF (wy hF rfl rfl rfl) rfl rfl (R.move (hF.ev rfl)) fun a hF => ?_
            refine sv' hF (wy hF rfl rfl rfl) rfl rfl (R.neq (hF.ev rfl) (hF.ev rfl)) fun a hF => ?_
            refine sv' hF (wn rfl) rfl rfl (R.pickF (hF.ev rfl) (hF.ev rfl)) fun a hF => ?_
            refine s0 ?_
            refine then_n (hK23 _ _ ?_)
            refine cD hF rfl (fun c2 => ?_) (fun c2 => ?_)
            ·
              exact absurd rfl c2
            ·
              refine wp_skip ?_
              exact then_n (hK14' _ _ ⟨hF.sub ⟨rfl, rfl, rfl, rfl, rfl, rfl, rfl, rfl, trivial⟩, hS.sel [5, 2, 1] rfl rfl⟩)
        ·
          exact absurd h55 h63

end Go.Proofs.Ythgecfjpacebeaa
