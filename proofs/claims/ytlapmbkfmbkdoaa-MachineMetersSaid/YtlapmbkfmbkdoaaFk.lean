/- The walk of MachineMeters. -/
import Derived.Test.YtlapmbkfmbkdoaaFh
namespace Go.Proofs.Ytlapmbkfmbkdoaa
open Go Go.Fw Go.RowKit
attribute [local irreducible] Go.Oper.wp Go.Code.wp Go.wpList Go.Fw.WL Go.Calls
def gasF (F : Fx) (g : Int) : Fx := { F with cl := { F.cl with gas := g } }
theorem PlayIn.gasF {F : Fx} {w : World} (h : PlayIn F w) {g : Int} (hg : i64OK g) : PlayIn (gasF F g) w := ⟨⟨h.ok.byt, h.ok.cap, h.ok.cap2, h.ok.argsW, h.ok.acap, h.ok.acap2, h.ok.self, h.ok.caller, h.ok.amount, h.ok.reps, h.ok.qlen⟩, h.inner, h.code, h.args, h.reps, h.b1, h.b2, h.b3, h.tok, h.time, hg, h.errs⟩
theorem playG (F : Fx) (g : Int) (r : Played) (w0 : World) (hp : PlayIn F w0) (hg : i64OK g) (hr : playN { F.cl with gas := g } F.code F.rep = r) : Ret Try.prog 15 [.agg (plays (gasF F g)).toArray, .slice none 0 0] w0 [] (RunR r) := by
  have := play0 (gasF F g) w0 (hp.gasF hg)
  rw [← hr]; exact this
theorem looks_dec (A : Option Addr) (n c : Nat) (xs : List Nat) (w0 : World) (hA : Rd w0 A (byts xs)) (hn : xs.length = n) (hnc : n ≤ c) (hc : c ≤ 9223372036854775807) (hB : Byt xs) (hb : n ≤ 140737488351232) : Ret Try.prog 17 [.slice A n c] w0 [] (fun v s => v = .bool (decide (looksL (plcs xs 0) xs = true)) ∧ s = []) := by
  have := looks_calls A n c xs w0 hA hn hnc hc hB hb
  rwa [show looksL (plcs xs 0) xs = decide (looksL (plcs xs 0) xs = true) by simp] at this
theorem meter3 {F : Fx} (h0 : Fx.Ok0 F) (he : (playN F.cl F.code F.rep).e = 0) (hu : Unlit F.code) : ∃ a, playN { F.cl with gas := (playN F.cl F.code F.rep).gas - 1 } F.code F.rep = ⟨0, 0, if (playN F.cl F.code F.rep).gas = 1 then 101 else 102, a⟩ := by
  obtain ⟨h1, h2, h3, h4⟩ := meter h0 he
  obtain ⟨h5, h6, h7⟩ := h4 hu
  by_cases h : (playN F.cl F.code F.rep).gas = 1
  · rw [if_pos h]
    exact ⟨[], h6 _ rfl (by omega)⟩
  · rw [if_neg h]
    exact h7 _ rfl (by omega)

set_option maxHeartbeats 4000000 in
theorem meters_calls (F : Fx) (n : Int) (w0 : World) (hp : PlayIn F w0) (hn : -9223372036854775808 ≤ n ∧ n ≤ 9223372036854775807) : Ret Try.prog 6 [.agg (plays F).toArray, .int .i64 n] w0 [] (fun v s => v = .bool true ∧ s = []) := by
  refine fn_start Try.func6 rfl Try.ntmps6 rfl [(0, .agg (plays F).toArray), (1, .int .i64 n)] ⟨rfl, rfl, trivial⟩ ?_
  intro Q a hP hF hR hN
  have hS := St.start w0
  refine wp_seq_k fun K1 hK1 => ?_
  refine wp_region_lit ?_
  refine so (wn rfl) (O.box rfl rfl hF (hF.ev rfl) rfl hS fun b2 a w hF hS => ?_)
  refine sv' hF (wn rfl) rfl rfl (R.assign (hF.ev rfl)) fun a hF => ?_
  refine s0 ?_
  refine then_n (hK1 _ _ ?_)
  refine wp_seq_k fun K2 hK2 => ?_
  refine wp_region_lit ?_
  refine sv' hF (wn rfl) rfl rfl (R.loadW agg37 (hF.ev rfl) hS .h sz37 (rfl)) fun a hF => ?_
  refine so (wn rfl) (O.call rfl rfl hF ent15 (hF.evs rfl) hS (play0 F w (hp.old hS)) fun v s14 a w hR hF hS => ?_)
  obtain ⟨A14, c14, rfl, hO14⟩ := hR
  refine sv' hF (wn rfl) rfl rfl (R.move (hF.ev rfl)) fun a hF => ?_
  refine sv' hF (wn rfl) rfl rfl (R.extract (hF.ev rfl) rfl) fun a hF => ?_
  refine sv' hF (wn rfl) rfl rfl (R.extract (hF.ev rfl) rfl) fun a hF => ?_
  refine sv' hF (wn rfl) rfl rfl (R.extract (hF.ev rfl) rfl) fun a hF => ?_
  refine so (wn rfl) (O.alloc rfl rfl hF ze39 rfl hS fun b5 a w hF hS => ?_)
  refine so (wn rfl) (O.storeW sz39 (hF.ev rfl) (hF.ev rfl) (rfl) rfl (by simp [Value.oneCell']) hS .h (rfl) fun w hS => ?_)
  refine sv' hF (wn rfl) rfl rfl (R.assign (hF.ev rfl)) fun a hF => ?_
  refine sv' hF (wn rfl) rfl rfl (R.assign (hF.ev rfl)) fun a hF => ?_
  refine s0 ?_
  refine then_n (hK2 _ _ ?_)
  refine wp_seq_k fun K3 hK3 => ?_
  refine wp_seq_k fun K4 hK4 => ?_
  refine wp_region_lit ?_
  refine sv' hF (wn rfl) rfl rfl (R.move (hF.ev rfl)) fun a hF => ?_
  refine sv' hF (wn rfl) rfl rfl (R.neq (hF.ev rfl) (hF.ev rfl)) fun a hF => ?_
  refine s0 ?_
  refine then_n (hK4 _ _ ?_)
  refine cD hF rfl (fun c1 => ?_) (fun c1 => ?_)
  ·
    refine wp_seq_k fun K5 hK5 => ?_
    refine wp_region_lit ?_
    refine so (wn rfl) (O.call rfl rfl hF ent11 (hF.evs rfl) hS (alive_calls _) fun v s20 a w hR hF hS => ?_)
    obtain ⟨rfl, rfl⟩ := hR
    refine sv' hF (wn rfl) rfl rfl (R.assign (hF.ev rfl)) fun a hF => ?_
    refine s0 ?_
    refine then_n (hK5 _ _ ?_)
    refine wp_ret (then_r (hR _ _ _ _ _ hF (run_results Try.results6 (.t hF rfl (.nil))) ?_))
    exact ⟨_, [], rfl, ⟨rfl, rfl⟩, hS.none⟩
  ·
    have he0 : (playN F.cl F.code F.rep).e = 0 := by omega
    obtain ⟨hm1, hm2, hm3, hm4⟩ := meter hp.ok he0
    refine wp_skip ?_
    refine then_n (hK3 _ _ ?_)
    refine wp_seq_k fun K6 hK6 => ?_
    refine wp_seq_k fun K7 hK7 => ?_
    refine wp_region_lit ?_
    refine sv' hF (wn rfl) rfl rfl (R.fieldAddr (k := 4) Try.underlying39 rfl nz3 (hF.ev rfl) rfl) fun a hF => ?_
    refine sv' hF (wn rfl) rfl rfl (R.load one3 (hF.ev rfl) hS .h (rfl)) fun a hF => ?_
    refine sv' hF (wn rfl) rfl rfl (R.as (u := .bool false) (R.lss (p := (playN F.cl F.code F.rep).gas) (q := 1) (hF.ev rfl) (hF.ev rfl)) (congrArg Value.bool (decide_eq_false (by omega)))) fun a hF => ?_
    refine sv' hF (wn rfl) rfl rfl (R.move (hF.ev rfl)) fun a hF => ?_
    refine sv' hF (wy hF rfl rfl rfl) rfl rfl (R.fieldAddr (k := 4) Try.underlying39 rfl nz3 (hF.ev rfl) rfl) fun a hF => ?_
    refine sv' hF (wy hF rfl rfl rfl) rfl rfl (R.load one3 (hF.ev rfl) hS .h (rfl)) fun a hF => ?_
    refine sv' hF (wy hF rfl rfl rfl) rfl rfl (R.fieldAddr (k := 1) Try.underlying37 rfl nz34 (hF.ev rfl) rfl) fun a hF => ?_
    refine sv' hF (wy hF rfl rfl rfl) rfl rfl (R.fieldAddr (k := 47) Try.underlying34 rfl nz3 (hF.ev rfl) rfl) fun a hF => ?_
    refine sv' hF (wy hF rfl rfl rfl) rfl rfl (R.load one3 (hF.ev rfl) hS (.t (.t .h)) (rfl)) fun a hF => ?_
    refine sv' hF (wy hF rfl rfl rfl) rfl rfl (R.as (u := .bool false) (R.gtr (p := (playN F.cl F.code F.rep).gas) (q := F.cl.gas) (hF.ev rfl) (hF.ev rfl)) (congrArg Value.bool (decide_eq_false (by omega)))) fun a hF => ?_
    refine sv' hF (wn rfl) rfl rfl (R.pickF (hF.ev rfl) (hF.ev rfl)) fun a hF => ?_
    refine s0 ?_
    refine then_n (hK7 _ _ ?_)
    refine cF hF rfl ?_
    refine wp_skip ?_
    refine then_n (hK6 _ _ ?_)
    refine wp_seq_k fun K8 hK8 => ?_
    refine wp_seq_k fun K9 hK9 => ?_
    refine wp_region_lit ?_
    refine sv' hF (wn rfl) rfl rfl (R.fieldAddr (k := 0) Try.underlying37 rfl nz23 (hF.ev rfl) rfl) fun a hF => ?_
    refine sv' hF (wn rfl) rfl rfl (R.load one23 (hF.ev rfl) hS (.t (.t .h)) (rfl)) fun a hF => ?_
    refine so (wn rfl) (O.call rfl rfl hF ent17 (hF.evs rfl) hS (looks_dec F.cA F.code.length F.cc F.code w (hp.code.old hS) rfl hp.ok.cap hp.ok.cap2 hp.ok.byt hp.b1) fun v s34 a w hR hF hS => ?_)
    obtain ⟨rfl, rfl⟩ := hR
    refine s0 ?_
    refine then_n (hK9 _ _ ?_)
    refine cD hF rfl (fun c3 => ?_) (fun c3 => ?_)
    ·
      refine wp_seq_k fun K10 hK10 => ?_
      refine wp_region_lit ?_
      refine so (wn rfl) (O.call rfl rfl hF ent11 (hF.evs rfl) hS (alive_calls _) fun v s35 a w hR hF hS => ?_)
      obtain ⟨rfl, rfl⟩ := hR
      refine sv' hF (wn rfl) rfl rfl (R.assign (hF.ev rfl)) fun a hF => ?_
      refine s0 ?_
      refine then_n (hK10 _ _ ?_)
      refine wp_ret (then_r (hR _ _ _ _ _ hF (run_results Try.results6 (.t hF rfl (.nil))) ?_))
      exact ⟨_, [], rfl, ⟨rfl, rfl⟩, hS.none⟩
    ·
      obtain ⟨hm5, hm6, hm7⟩ := hm4 (unlit_of (Bool.eq_false_iff.2 c3))
      obtain ⟨a3, ha3⟩ := meter3 hp.ok he0 (unlit_of (Bool.eq_false_iff.2 c3))
      refine wp_skip ?_
      refine then_n (hK8 _ _ ?_)
      refine wp_seq_k fun K11 hK11 => ?_
      refine wp_region_lit ?_
      refine sv' hF (wn rfl) rfl rfl (R.loadW agg37 (hF.ev rfl) hS (.t (.t (.t .h))) sz37 (rfl)) fun a hF => ?_
      refine so (wn rfl) (O.alloc rfl rfl hF ze37 rfl hS fun b8 a w hF hS => ?_)
      refine so (wn rfl) (O.storeW sz37 (hF.ev rfl) (hF.ev rfl) (rfl) rfl (by simp [plays, Value.oneCell']) hS .h (rfl) fun w hS => ?_)
      refine s0 ?_
      refine then_n (hK11 _ _ ?_)
      refine wp_seq_k fun K12 hK12 => ?_
      refine wp_region_lit ?_
      refine sv' hF (wn rfl) rfl rfl (R.fieldAddr (k := 4) Try.underlying39 rfl nz3 (hF.ev rfl) rfl) fun a hF => ?_
      refine sv' hF (wn rfl) rfl rfl (R.load one3 (hF.ev rfl) hS (.t (.t .h)) (rfl)) fun a hF => ?_
      refine sv' hF (wn rfl) rfl rfl (R.fieldAddr (k := 1) Try.underlying37 rfl nz34 (hF.ev rfl) rfl) fun a hF => ?_
      refine sv' hF (wn rfl) rfl rfl (R.fieldAddr (k := 47) Try.underlying34 rfl nz3 (hF.ev rfl) rfl) fun a hF => ?_
      refine so (wn rfl) (O.store sz3 (hF.ev rfl) (hF.ev rfl) rfl rfl hS .h (show List.set _ _ _ = plays (gasF F (playN F.cl F.code F.rep).gas) from rfl) (by show _ < 50; decide) fun w hS => ?_)
      refine s0 ?_
      refine then_n (hK12 _ _ ?_)
      refine wp_seq_k fun K13 hK13 => ?_
      refine wp_region_lit ?_
      refine sv' hF (wn rfl) rfl rfl (R.loadW agg37 (hF.ev rfl) hS .h sz37 (rfl)) fun a hF => ?_
      refine so (wn rfl) (O.call rfl rfl hF ent15 (hF.evs rfl) hS (playG F (playN F.cl F.code F.rep).gas (playN F.cl F.code F.rep) w (hp.old hS) (by unfold i64OK; omega) (hm5 _ (Int.le_refl _) hm3)) fun v s43 a w hR hF hS => ?_)
      obtain ⟨A43, c43, rfl, hO43⟩ := hR
      refine sv' hF (wn rfl) rfl rfl (R.move (hF.ev rfl)) fun a hF => ?_
      refine sv' hF (wn rfl) rfl rfl (R.extract (hF.ev rfl) rfl) fun a hF => ?_
      refine sv' hF (wn rfl) rfl rfl (R.extract (hF.ev rfl) rfl) fun a hF => ?_
      refine sv' hF (wn rfl) rfl rfl (R.extract (hF.ev rfl) rfl) fun a hF => ?_
      refine so (wn rfl) (O.alloc rfl rfl hF ze39 rfl hS fun b9 a w hF hS => ?_)
      refine so (wn rfl) (O.storeW sz39 (hF.ev rfl) (hF.ev rfl) (rfl) rfl (by simp [Value.oneCell']) hS .h (rfl) fun w hS => ?_)
      refine sv' hF (wn rfl) rfl rfl (R.assign (hF.ev rfl)) fun a hF => ?_
      refine sv' hF (wn rfl) rfl rfl (R.assign (hF.ev rfl)) fun a hF => ?_
      refine s0 ?_
      refine then_n (hK13 _ _ ?_)
      refine wp_seq_k fun K14 hK14 => ?_
      refine wp_seq_k fun K15 hK15 => ?_
      refine wp_region_lit ?_
      refine sv' hF (wn rfl) rfl rfl (R.move (hF.ev rfl)) fun a hF => ?_
      refine sv' hF (wn rfl) rfl rfl (R.as (u := .bool false) (R.neq (p := (playN F.cl F.code F.rep).e) (q := 0) (hF.ev rfl) (hF.ev rfl)) (congrArg Value.bool (decide_eq_false (fun h => h he0)))) fun a hF => ?_
      refine sv' hF (wn rfl) rfl rfl (R.move (hF.ev rfl)) fun a hF => ?_
      refine sv' hF (wy hF rfl rfl rfl) rfl rfl (R.loadW agg39 (hF.ev rfl) hS .h sz39 (rfl)) fun a hF => ?_
      refine sv' hF (wy hF rfl rfl rfl) rfl rfl (R.loadW agg39 (hF.ev rfl) hS (.t (.t (.t (.t .h)))) sz39 (rfl)) fun a hF => ?_
      refine sv' hF (wy hF rfl rfl rfl) rfl rfl (R.as (u := .bool false) (R.neqAgg (hF.ev rfl) (hF.ev rfl) (ran_eq _ _) eg39) (rfl)) fun a hF => ?_
      refine sv' hF (wn rfl) rfl rfl (R.pickF (hF.ev rfl) (hF.ev rfl)) fun a hF => ?_
      refine sv' hF (wn rfl) rfl rfl (R.move (hF.ev rfl)) fun a hF => ?_
      refine sv' hF (wy hF rfl rfl rfl) rfl rfl (R.move (hF.ev rfl)) fun a hF => ?_
      refine sv' hF (wy hF rfl rfl rfl) rfl rfl (R.move (hF.ev rfl)) fun a hF => ?_
      refine so (wy hF rfl rfl rfl) (O.call rfl rfl hF ent16 (hF.evs rfl) hS (sameAsks_calls A43 A14 c43 c14 (playN F.cl F.code F.rep).asks w (hO43.rd hS (.t .h)) (hO14.rd hS (.t (.t (.t (.t (.t .h)))))) (Nat.le_trans hO14.2.1 hO14.cap)) fun v s57 a w hR hF hS => ?_)
      obtain ⟨rfl, rfl⟩ := hR
      refine sv' hF (wy hF rfl rfl rfl) rfl rfl (R.as (u := .bool false) (R.not (hF.ev rfl)) (rfl)) fun a hF => ?_
      refine sv' hF (wn rfl) rfl rfl (R.pickF (hF.ev rfl) (hF.ev rfl)) fun a hF => ?_
      refine s0 ?_
      refine then_n (hK15 _ _ ?_)
      refine cF hF rfl ?_
      refine wp_skip ?_
      refine then_n (hK14 _ _ ?_)
      refine wp_seq_k fun K16 hK16 => ?_
      have hK16' : ∀ a w, (∃ (q : Int), Fr 129 [(5, .pointer (some ⟨b5, 0, none⟩)), (8, .pointer (some ⟨b8, 0, none⟩)), (9, .pointer (some ⟨b9, 0, none⟩))] a ∧ St w0 [] [[(b5, Cel (wc (playN F.cl F.code F.rep).v ++ [Value.int .i64 (playN F.cl F.code F.rep).gas]) 39)], [(b8, Cel (plays (gasF F q)) 37)], [(b9, Cel (wc (playN F.cl F.code F.rep).v ++ [Value.int .i64 (playN F.cl F.code F.rep).gas]) 39)]] w) → K16 a w := by
        rintro a w ⟨q, hF, hS⟩
        refine hK16 _ _ ?_
        refine wp_seq_k fun K17 hK17 => ?_
        refine wp_region_lit ?_
        refine sv' hF (wn rfl) rfl rfl (R.fieldAddr (k := 4) Try.underlying39 rfl nz3 (hF.ev rfl) rfl) fun a hF => ?_
        refine sv' hF (wn rfl) rfl rfl (R.load one3 (hF.ev rfl) hS .h (rfl)) fun a hF => ?_
        refine sv' hF (wn rfl) rfl rfl (R.subI (hF.ev rfl) (hF.ev rfl) (by omega)) fun a hF => ?_
        refine sv' hF (wn rfl) rfl rfl (R.fieldAddr (k := 1) Try.underlying37 rfl nz34 (hF.ev rfl) rfl) fun a hF => ?_
        refine sv' hF (wn rfl) rfl rfl (R.fieldAddr (k := 47) Try.underlying34 rfl nz3 (hF.ev rfl) rfl) fun a hF => ?_
        refine so (wn rfl) (O.store sz3 (hF.ev rfl) (hF.ev rfl) rfl rfl hS (.t .h) (show List.set _ _ _ = plays (gasF F ((playN F.cl F.code F.rep).gas - 1)) from rfl) (by show _ < 50; decide) fun w hS => ?_)
        refine s0 ?_
        refine then_n (hK17 _ _ ?_)
        refine wp_seq_k fun K18 hK18 => ?_
        refine wp_region_lit ?_
        refine sv' hF (wn rfl) rfl rfl (R.loadW agg37 (hF.ev rfl) hS (.t .h) sz37 (rfl)) fun a hF => ?_
        refine so (wn rfl) (O.call rfl rfl hF ent15 (hF.evs rfl) hS (playG F ((playN F.cl F.code F.rep).gas - 1) _ w (hp.old hS) (by unfold i64OK; omega) ha3) fun v s105 a w hR hF hS => ?_)
        obtain ⟨A105, c105, rfl, hO105⟩ := hR
        refine sv' hF (wn rfl) rfl rfl (R.move (hF.ev rfl)) fun a hF => ?_
        refine sv' hF (wn rfl) rfl rfl (R.extract (hF.ev rfl) rfl) fun a hF => ?_
        refine sv' hF (wn rfl) rfl rfl (R.extract (hF.ev rfl) rfl) fun a hF => ?_
        refine sv' hF (wn rfl) rfl rfl (R.extract (hF.ev rfl) rfl) fun a hF => ?_
        refine so (wn rfl) (O.storeW sz39 (hF.ev rfl) (hF.ev rfl) (rfl) rfl (by simp [Value.oneCell']) hS (.t (.t (.t .h))) (rfl) fun w hS => ?_)
        refine sv' hF (wn rfl) rfl rfl (R.assign (hF.ev rfl)) fun a hF => ?_
        refine s0 ?_
        refine then_n (hK18 _ _ ?_)
        refine wp_seq_k fun K19 hK19 => ?_
        refine wp_seq_k fun K20 hK20 => ?_
        refine wp_region_lit ?_
        refine sv' hF (wn rfl) rfl rfl (R.fieldAddr (k := 4) Try.underlying39 rfl nz3 (hF.ev rfl) rfl) fun a hF => ?_
        refine sv' hF (wn rfl) rfl rfl (R.load one3 (hF.ev rfl) hS (.t .h) (rfl)) fun a hF => ?_
        refine sv' hF (wn rfl) rfl rfl (R.eql (hF.ev rfl) (hF.ev rfl)) fun a hF => ?_
        refine s0 ?_
        refine then_n (hK20 _ _ ?_)
        refine cD hF rfl (fun c7 => ?_) (fun c7 => ?_)
        ·
          refine wp_seq_k fun K21 hK21 => ?_
          refine wp_region_lit ?_
          refine sv' hF (wn rfl) rfl rfl (R.move (hF.ev rfl)) fun a hF => ?_
          refine sv' hF (wn rfl) rfl rfl (R.as (u := .bool true) (R.eql (p := (if (playN F.cl F.code F.rep).gas = 1 then 101 else 102)) (q := 101) (hF.ev rfl) (hF.ev rfl)) (congrArg Value.bool (decide_eq_true (if_pos c7)))) fun a hF => ?_
          refine sv' hF (wn rfl) rfl rfl (R.move (hF.ev rfl)) fun a hF => ?_
          refine sv' hF (wy hF rfl rfl rfl) rfl rfl (R.loadW agg39 (hF.ev rfl) hS (.t (.t (.t .h))) sz39 (rfl)) fun a hF => ?_
          refine sv' hF (wy hF rfl rfl rfl) rfl rfl (R.buildStr (l := [_, _, _, _, _]) Try.underlying39 ze39 pl39 (hF.evp rfl) rfl) fun a hF => ?_
          refine sv' hF (wy hF rfl rfl rfl) rfl rfl (R.as (u := .bool true) (R.eqlAgg (hF.ev rfl) (hF.ev rfl) (ran_eq 0 0) eg39) (rfl)) fun a hF => ?_
          refine sv' hF (wn rfl) rfl rfl (R.pickT (hF.ev rfl) (hF.ev rfl)) fun a hF => ?_
          refine sv' hF (wn rfl) rfl rfl (R.assign (hF.ev rfl)) fun a hF => ?_
          refine s0 ?_
          refine then_n (hK21 _ _ ?_)
          refine wp_ret (then_r (hR _ _ _ _ _ hF (run_results Try.results6 (.t hF rfl (.nil))) ?_))
          exact ⟨_, [], rfl, ⟨rfl, rfl⟩, hS.none⟩
        ·
          refine wp_skip ?_
          refine then_n (hK19 _ _ ?_)
          refine wp_seq_k fun K22 hK22 => ?_
          refine wp_region_lit ?_
          refine sv' hF (wn rfl) rfl rfl (R.move (hF.ev rfl)) fun a hF => ?_
          refine sv' hF (wn rfl) rfl rfl (R.as (u := .bool true) (R.eql (p := (if (playN F.cl F.code F.rep).gas = 1 then 101 else 102)) (q := 102) (hF.ev rfl) (hF.ev rfl)) (congrArg Value.bool (decide_eq_true (if_neg c7)))) fun a hF => ?_
          refine sv' hF (wn rfl) rfl rfl (R.move (hF.ev rfl)) fun a hF => ?_
          refine sv' hF (wy hF rfl rfl rfl) rfl rfl (R.loadW agg39 (hF.ev rfl) hS (.t (.t (.t .h))) sz39 (rfl)) fun a hF => ?_
          refine sv' hF (wy hF rfl rfl rfl) rfl rfl (R.buildStr (l := [_, _, _, _, _]) Try.underlying39 ze39 pl39 (hF.evp rfl) rfl) fun a hF => ?_
          refine sv' hF (wy hF rfl rfl rfl) rfl rfl (R.as (u := .bool true) (R.eqlAgg (hF.ev rfl) (hF.ev rfl) (ran_eq 0 0) eg39) (rfl)) fun a hF => ?_
          refine sv' hF (wn rfl) rfl rfl (R.pickT (hF.ev rfl) (hF.ev rfl)) fun a hF => ?_
          refine sv' hF (wn rfl) rfl rfl (R.move (hF.ev rfl)) fun a hF => ?_
          refine so (wy hF rfl rfl rfl) (O.call rfl rfl hF ent11 (hF.evs rfl) hS (alive_calls _) fun v s127 a w hR hF hS => ?_)
          obtain ⟨rfl, rfl⟩ := hR
          refine sv' hF (wn rfl) rfl rfl (R.pickT (hF.ev rfl) (hF.ev rfl)) fun a hF => ?_
          refine sv' hF (wn rfl) rfl rfl (R.assign (hF.ev rfl)) fun a hF => ?_
          refine s0 ?_
          refine then_n (hK22 _ _ ?_)
          refine wp_ret (hR _ _ _ _ _ hF (run_results Try.results6 (.t hF rfl (.nil))) ?_)
          exact ⟨_, [], rfl, ⟨rfl, rfl⟩, hS.none⟩
      refine wp_seq_k fun K23 hK23 => ?_
      have hK23' : ∀ a w, (Fr 129 [(1, .int .i64 n), (7, .slice A14 (playN F.cl F.code F.rep).asks.length c14), (72, .bool (decide (0 < n ∧ n ≤ 10000 ∧ (playN F.cl F.code F.rep).gas + n ≤ 10000))), (5, .pointer (some ⟨b5, 0, none⟩)), (8, .pointer (some ⟨b8, 0, none⟩)), (9, .pointer (some ⟨b9, 0, none⟩))] a ∧ St w0 [] [[(b5, Cel (wc (playN F.cl F.code F.rep).v ++ [Value.int .i64 (playN F.cl F.code F.rep).gas]) 39)], [(b8, Cel (plays (gasF F ((playN F.cl F.code F.rep).gas))) 37)], [(b9, Cel (wc (playN F.cl F.code F.rep).v ++ [Value.int .i64 (playN F.cl F.code F.rep).gas]) 39)], s14] w) → K23 a w := by
        rintro a w ⟨hF, hS⟩
        refine hK23 _ _ ?_
        refine cD hF rfl (fun c5 => ?_) (fun c5 => ?_)
        ·
          refine wp_seq_k fun K24 hK24 => ?_
          refine wp_region_lit ?_
          refine sv' hF (wn rfl) rfl rfl (R.fieldAddr (k := 4) Try.underlying39 rfl nz3 (hF.ev rfl) rfl) fun a hF => ?_
          refine sv' hF (wn rfl) rfl rfl (R.load one3 (hF.ev rfl) hS .h (rfl)) fun a hF => ?_
          refine sv' hF (wn rfl) rfl rfl (R.move (hF.ev rfl)) fun a hF => ?_
          refine sv' hF (wn rfl) rfl rfl (R.addI (hF.ev rfl) (hF.ev rfl) (by omega)) fun a hF => ?_
          refine sv' hF (wn rfl) rfl rfl (R.fieldAddr (k := 1) Try.underlying37 rfl nz34 (hF.ev rfl) rfl) fun a hF => ?_
          refine sv' hF (wn rfl) rfl rfl (R.fieldAddr (k := 47) Try.underlying34 rfl nz3 (hF.ev rfl) rfl) fun a hF => ?_
          refine so (wn rfl) (O.store sz3 (hF.ev rfl) (hF.ev rfl) rfl rfl hS (.t .h) (show List.set _ _ _ = plays (gasF F ((playN F.cl F.code F.rep).gas + n)) from rfl) (by show _ < 50; decide) fun w hS => ?_)
          refine s0 ?_
          refine then_n (hK24 _ _ ?_)
          refine wp_seq_k fun K25 hK25 => ?_
          refine wp_region_lit ?_
          refine sv' hF (wn rfl) rfl rfl (R.loadW agg37 (hF.ev rfl) hS (.t .h) sz37 (rfl)) fun a hF => ?_
          refine so (wn rfl) (O.call rfl rfl hF ent15 (hF.evs rfl) hS (playG F ((playN F.cl F.code F.rep).gas + n) (playN F.cl F.code F.rep) w (hp.old hS) (by unfold i64OK; omega) (hm5 _ (by omega) (by omega))) fun v s81 a w hR hF hS => ?_)
          obtain ⟨A81, c81, rfl, hO81⟩ := hR
          refine sv' hF (wn rfl) rfl rfl (R.move (hF.ev rfl)) fun a hF => ?_
          refine sv' hF (wn rfl) rfl rfl (R.extract (hF.ev rfl) rfl) fun a hF => ?_
          refine sv' hF (wn rfl) rfl rfl (R.extract (hF.ev rfl) rfl) fun a hF => ?_
          refine sv' hF (wn rfl) rfl rfl (R.extract (hF.ev rfl) rfl) fun a hF => ?_
          refine so (wn rfl) (O.storeW sz39 (hF.ev rfl) (hF.ev rfl) (rfl) rfl (by simp [Value.oneCell']) hS (.t (.t (.t .h))) (rfl) fun w hS => ?_)
          refine sv' hF (wn rfl) rfl rfl (R.assign (hF.ev rfl)) fun a hF => ?_
          refine sv' hF (wn rfl) rfl rfl (R.assign (hF.ev rfl)) fun a hF => ?_
          refine s0 ?_
          refine then_n (hK25 _ _ ?_)
          refine wp_seq_k fun K26 hK26 => ?_
          refine wp_region_lit ?_
          refine sv' hF (wn rfl) rfl rfl (R.move (hF.ev rfl)) fun a hF => ?_
          refine sv' hF (wn rfl) rfl rfl (R.as (u := .bool false) (R.neq (p := (playN F.cl F.code F.rep).e) (q := 0) (hF.ev rfl) (hF.ev rfl)) (congrArg Value.bool (decide_eq_false (fun h => h he0)))) fun a hF => ?_
          refine sv' hF (wn rfl) rfl rfl (R.move (hF.ev rfl)) fun a hF => ?_
          refine sv' hF (wy hF rfl rfl rfl) rfl rfl (R.loadW agg39 (hF.ev rfl) hS (.t (.t (.t .h))) sz39 (rfl)) fun a hF => ?_
          refine sv' hF (wy hF rfl rfl rfl) rfl rfl (R.loadW agg39 (hF.ev rfl) hS (.t .h) sz39 (rfl)) fun a hF => ?_
          refine sv' hF (wy hF rfl rfl rfl) rfl rfl (R.as (u := .bool false) (R.neqAgg (hF.ev rfl) (hF.ev rfl) (ran_eq _ _) eg39) (rfl)) fun a hF => ?_
          refine sv' hF (wn rfl) rfl rfl (R.pickF (hF.ev rfl) (hF.ev rfl)) fun a hF => ?_
          refine sv' hF (wn rfl) rfl rfl (R.move (hF.ev rfl)) fun a hF => ?_
          refine sv' hF (wy hF rfl rfl rfl) rfl rfl (R.move (hF.ev rfl)) fun a hF => ?_
          refine sv' hF (wy hF rfl rfl rfl) rfl rfl (R.move (hF.ev rfl)) fun a hF => ?_
          refine so (wy hF rfl rfl rfl) (O.call rfl rfl hF ent16 (hF.evs rfl) hS (sameAsks_calls A81 A14 c81 c14 (playN F.cl F.code F.rep).asks w (hO81.rd hS .h) (hO14.rd hS (.t (.t (.t (.t .h))))) (Nat.le_trans hO14.2.1 hO14.cap)) fun v s95 a w hR hF hS => ?_)
          obtain ⟨rfl, rfl⟩ := hR
          refine sv' hF (wy hF rfl rfl rfl) rfl rfl (R.as (u := .bool false) (R.not (hF.ev rfl)) (rfl)) fun a hF => ?_
          refine sv' hF (wn rfl) rfl rfl (R.pickF (hF.ev rfl) (hF.ev rfl)) fun a hF => ?_
          refine s0 ?_
          refine then_n (hK26 _ _ ?_)
          refine cF hF rfl ?_
          refine wp_skip ?_
          exact then_n (hK16' _ _ ⟨_, hF.sub ⟨rfl, rfl, rfl, trivial⟩, hS.sel [2, 3, 4] rfl rfl⟩)
        ·
          refine wp_skip ?_
          exact then_n (hK16' _ _ ⟨_, hF.sub ⟨rfl, rfl, rfl, trivial⟩, hS.sel [0, 1, 2] rfl rfl⟩)
      refine wp_region_lit ?_
      refine sv' hF (wn rfl) rfl rfl (R.move (hF.ev rfl)) fun a hF => ?_
      refine sv' hF (wn rfl) rfl rfl (R.gtr (hF.ev rfl) (hF.ev rfl)) fun a hF => ?_
      refine sv' hF (wn rfl) rfl rfl (R.move (hF.ev rfl)) fun a hF => ?_
      refine hF.splitD (t := 62) rfl (fun h62 hF => ?_) (fun h62 hF => ?_)
      ·
        refine sv' hF (wy hF rfl rfl rfl) rfl rfl (R.move (hF.ev rfl)) fun a hF => ?_
        refine sv' hF (wy hF rfl rfl rfl) rfl rfl (R.leq (hF.ev rfl) (hF.ev rfl)) fun a hF => ?_
        refine sv' hF (wn rfl) rfl rfl (R.pickT (hF.ev rfl) (hF.ev rfl)) fun a hF => ?_
        refine sv' hF (wn rfl) rfl rfl (R.move (hF.ev rfl)) fun a hF => ?_
        refine hF.splitD (t := 66) rfl (fun h66 hF => ?_) (fun h66 hF => ?_)
        ·
          refine sv' hF (wy hF rfl rfl rfl) rfl rfl (R.fieldAddr (k := 4) Try.underlying39 rfl nz3 (hF.ev rfl) rfl) fun a hF => ?_
          refine sv' hF (wy hF rfl rfl rfl) rfl rfl (R.load one3 (hF.ev rfl) hS (.t (.t (.t (.t (.t .h))))) (rfl)) fun a hF => ?_
          refine sv' hF (wy hF rfl rfl rfl) rfl rfl (R.move (hF.ev rfl)) fun a hF => ?_
          refine sv' hF (wy hF rfl rfl rfl) rfl rfl (R.addI (hF.ev rfl) (hF.ev rfl) (by omega)) fun a hF => ?_
          refine sv' hF (wy hF rfl rfl rfl) rfl rfl (R.leq (hF.ev rfl) (hF.ev rfl)) fun a hF => ?_
          refine sv' hF (wn rfl) rfl rfl (R.pickT (hF.ev rfl) (hF.ev rfl)) fun a hF => ?_
          refine s0 ?_
          exact then_n (hK23' _ _ ⟨hF.sub ⟨rfl, rfl, (congrArg (fun z => some (Value.bool z)) (by first | exact (decide_eq_true (by omega)).symm | exact (decide_eq_false (by omega)).symm | exact decide_eq_decide.2 (by omega))), rfl, rfl, rfl, trivial⟩, hS.sel [5, 3, 1, 6] rfl rfl⟩)
        ·
          refine sk hF (ws hF rfl rfl rfl rfl) rfl rfl fun a hF => ?_
          refine sk hF (ws hF rfl rfl rfl rfl) rfl rfl fun a hF => ?_
          refine sk hF (ws hF rfl rfl rfl rfl) rfl rfl fun a hF => ?_
          refine sk hF (ws hF rfl rfl rfl rfl) rfl rfl fun a hF => ?_
          refine sk hF (ws hF rfl rfl rfl rfl) rfl rfl fun a hF => ?_
          refine sv' hF (wn rfl) rfl rfl (R.pickF (hF.ev rfl) (hF.ev rfl)) fun a hF => ?_
          refine s0 ?_
          exact then_n (hK23' _ _ ⟨hF.sub ⟨rfl, rfl, (congrArg (fun z => some (Value.bool z)) (by first | exact (decide_eq_true (by omega)).symm | exact (decide_eq_false (by omega)).symm | exact decide_eq_decide.2 (by omega))), rfl, rfl, rfl, trivial⟩, hS.sel [5, 3, 1, 6] rfl rfl⟩)
      ·
        refine sk hF (ws hF rfl rfl rfl rfl) rfl rfl fun a hF => ?_
        refine sk hF (ws hF rfl rfl rfl rfl) rfl rfl fun a hF => ?_
        refine sv' hF (wn rfl) rfl rfl (R.pickF (hF.ev rfl) (hF.ev rfl)) fun a hF => ?_
        refine sv' hF (wn rfl) rfl rfl (R.move (hF.ev rfl)) fun a hF => ?_
        refine sk hF (ws hF rfl rfl rfl rfl) rfl rfl fun a hF => ?_
        refine sk hF (ws hF rfl rfl rfl rfl) rfl rfl fun a hF => ?_
        refine sk hF (ws hF rfl rfl rfl rfl) rfl rfl fun a hF => ?_
        refine sk hF (ws hF rfl rfl rfl rfl) rfl rfl fun a hF => ?_
        refine sk hF (ws hF rfl rfl rfl rfl) rfl rfl fun a hF => ?_
        refine sv' hF (wn rfl) rfl rfl (R.pickF (hF.ev rfl) (hF.ev rfl)) fun a hF => ?_
        refine s0 ?_
        exact then_n (hK23' _ _ ⟨hF.sub ⟨rfl, rfl, (congrArg (fun z => some (Value.bool z)) (by first | exact (decide_eq_true (by omega)).symm | exact (decide_eq_false (by omega)).symm | exact decide_eq_decide.2 (by omega))), rfl, rfl, rfl, trivial⟩, hS.sel [5, 3, 1, 6] rfl rfl⟩)

end Go.Proofs.Ytlapmbkfmbkdoaa
