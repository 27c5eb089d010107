/- The calls of the escrow's methods. -/
import Derived.Test.YthgecfjpacebeaaV
namespace Go.Proofs.Ythgecfjpacebeaa
open Go Go.Fw Go.RowKit
attribute [local irreducible] Go.Oper.wp Go.Code.wp Go.wpList Go.Fw.WL Go.Calls
theorem has_calls (mv : Value) (f : Int → Bool) (n : Int) (w0 : World) (hM : MapIn .i64 w0 mv (paidF f)) : Ret Try.prog 77 [.agg #[mv], .int .i64 n] w0 [] (fun v s => v = .bool (f n) ∧ s = []) := by
  refine fn_start Try.func77 rfl Try.ntmps77 rfl [(0, .agg #[mv]), (1, .int .i64 n)] ⟨rfl, rfl, trivial⟩ ?_
  intro Q a hP hF hR hN
  have hS := St.start w0
  refine wp_seq_k fun K1 hK1 => ?_
  refine wp_region_lit ?_
  refine so (wn rfl) (O.box rfl rfl hF (hF.ev rfl) rfl hS fun b2 a w hF hS => ?_)
  refine sv' hF (wn rfl) rfl rfl (R.assign (hF.ev rfl)) fun a hF => ?_
  refine s0 ?_
  refine then_n (hK1 _ _ ?_)
  refine wp_seq_k fun K2 hK2 => ?_
  refine wp_region_lit ?_
  refine sv' hF (wn rfl) rfl rfl (R.fieldAddr (k := 0) Try.underlying98 rfl nz96 (hF.ev rfl) rfl) fun a hF => ?_
  refine sv' hF (wn rfl) rfl rfl (R.load one96 (hF.ev rfl) hS .h (rfl)) fun a hF => ?_
  refine sv' hF (wn rfl) rfl rfl (R.move (hF.ev rfl)) fun a hF => ?_
  refine sv' hF (wn rfl) rfl rfl (R.paidOk (hM.old hS) (hF.ev rfl) (hF.ev rfl)) fun a hF => ?_
  refine sv' hF (wn rfl) rfl rfl (R.move (hF.ev rfl)) fun a hF => ?_
  refine sv' hF (wn rfl) rfl rfl (R.extract (hF.ev rfl) rfl) fun a hF => ?_
  refine sv' hF (wn rfl) rfl rfl (R.extract (hF.ev rfl) rfl) fun a hF => ?_
  refine so (wn rfl) (O.alloc rfl rfl hF ze118 rfl hS fun b5 a w hF hS => ?_)
  refine so (wn rfl) (O.storeW sz118 (hF.ev rfl) (hF.ev rfl) rfl rfl (by simp [Value.oneCell']) hS .h rfl fun w hS => ?_)
  refine sv' hF (wn rfl) rfl rfl (R.assign (hF.ev rfl)) fun a hF => ?_
  refine s0 ?_
  refine then_n (hK2 _ _ ?_)
  refine wp_seq_k fun K3 hK3 => ?_
  refine wp_region_lit ?_
  refine sv' hF (wn rfl) rfl rfl (R.move (hF.ev rfl)) fun a hF => ?_
  refine sv' hF (wn rfl) rfl rfl (R.assign (hF.ev rfl)) fun a hF => ?_
  refine s0 ?_
  refine then_n (hK3 _ _ ?_)
  refine wp_ret (hR _ _ _ _ _ hF (run_results Try.results77 (.t hF rfl (.nil))) ?_)
  exact ⟨_, [], rfl, ⟨rfl, rfl⟩, hS.none⟩

theorem may_calls (n : Int) (w0 : World) : Ret Try.prog 78 [.int .i64 n] w0 [] (fun v s => v = .bool (decide (0 ≤ n ∧ n < 64)) ∧ s = []) := by
  refine fn_start Try.func78 rfl Try.ntmps78 rfl [(0, .int .i64 n)] ⟨rfl, trivial⟩ ?_
  intro Q a hP hF hR hN
  have hS := St.start w0
  refine wp_seq_k fun K1 hK1 => ?_
  refine wp_region_lit ?_
  refine sv' hF (wn rfl) rfl rfl (R.assign (hF.ev rfl)) fun a hF => ?_
  refine s0 ?_
  refine then_n (hK1 _ _ ?_)
  refine wp_seq_k fun K2 hK2 => ?_
  refine wp_region_lit ?_
  refine sv' hF (wn rfl) rfl rfl (R.move (hF.ev rfl)) fun a hF => ?_
  refine sv' hF (wn rfl) rfl rfl (R.geq (hF.ev rfl) (hF.ev rfl)) fun a hF => ?_
  refine sv' hF (wn rfl) rfl rfl (R.move (hF.ev rfl)) fun a hF => ?_
  refine hF.splitD (t := 5) rfl (fun h5 hF => ?_) (fun h5 hF => ?_)
  ·
    refine sv' hF (wy hF rfl rfl rfl) rfl rfl (R.move (hF.ev rfl)) fun a hF => ?_
    refine sv' hF (wy hF rfl rfl rfl) rfl rfl (R.lss (hF.ev rfl) (hF.ev rfl)) fun a hF => ?_
    refine sv' hF (wn rfl) rfl rfl (R.pickT (hF.ev rfl) (hF.ev rfl)) fun a hF => ?_
    refine sv' hF (wn rfl) rfl rfl (R.assign (hF.ev rfl)) fun a hF => ?_
    refine s0 ?_
    refine then_n (hK2 _ _ ?_)
    refine wp_ret (hR _ _ _ _ _ hF (run_results Try.results78 (.t hF rfl (.nil))) ?_)
    refine ⟨_, [], rfl, ⟨?_, rfl⟩, hS.none⟩
    first | exact congrArg Value.bool (decide_eq_decide.2 (by omega)) | exact congrArg Value.bool (decide_eq_false (by omega)).symm
  ·
    refine sk hF (ws hF rfl rfl rfl rfl) rfl rfl fun a hF => ?_
    refine sk hF (ws hF rfl rfl rfl rfl) rfl rfl fun a hF => ?_
    refine sv' hF (wn rfl) rfl rfl (R.pickF (hF.ev rfl) (hF.ev rfl)) fun a hF => ?_
    refine sv' hF (wn rfl) rfl rfl (R.assign (hF.ev rfl)) fun a hF => ?_
    refine s0 ?_
    refine then_n (hK2 _ _ ?_)
    refine wp_ret (hR _ _ _ _ _ hF (run_results Try.results78 (.t hF rfl (.nil))) ?_)
    refine ⟨_, [], rfl, ⟨?_, rfl⟩, hS.none⟩
    first | exact congrArg Value.bool (decide_eq_decide.2 (by omega)) | exact congrArg Value.bool (decide_eq_false (by omega)).symm

theorem listed_calls (bv : Nat) (V : Vau) (n : Int) (s : Seg) (w0 : World) (hV : VaultS bv V s) (ho : Own w0 s) : Ret Try.prog 79 [.pointer (some ⟨bv, 0, none⟩), .int .i64 n] w0 (s.map (·.1)) (fun v s' => v = .tuple [.agg (tokL (V.lst n)).toArray, .int .i64 (V.err n)].toArray ∧ s' = s) := by
  refine fn_start Try.func79 rfl Try.ntmps79 rfl [(0, .pointer (some ⟨bv, 0, none⟩)), (1, .int .i64 n)] ⟨rfl, rfl, trivial⟩ ?_
  intro Q a hP hF hR hN
  have hS := St.enter ho
  refine wp_seq_k fun K1 hK1 => ?_
  refine wp_region_lit ?_
  refine so (wn rfl) (O.alloc rfl rfl hF ze105 rfl hS fun b4 a w hF hS => ?_)
  refine sv' hF (wn rfl) rfl rfl (R.assign (hF.ev rfl)) fun a hF => ?_
  refine s0 ?_
  refine then_n (hK1 _ _ ?_)
  refine wp_seq_k fun K2 hK2 => ?_
  refine wp_seq_k fun K3 hK3 => ?_
  refine wp_region_lit ?_
  refine sv' hF (wn rfl) rfl rfl (R.move (hF.ev rfl)) fun a hF => ?_
  refine so (wn rfl) (O.call rfl rfl hF ent78 (hF.evs rfl) hS (may_calls n _) fun v s9 a w hR hF hS => ?_)
  obtain ⟨rfl, rfl⟩ := hR
  refine sv' hF (wn rfl) rfl rfl ((by first | exact R.notD (hF.ev rfl) | exact R.not (hF.ev rfl))) fun a hF => ?_
  refine s0 ?_
  refine then_n (hK3 _ _ ?_)
  refine cD hF rfl (fun c1 => ?_) (fun c1 => ?_)
  ·
    have e : V.err n = 140 := by simp [Vau.err, c1]
    have l : V.lst n = none := by simp [Vau.lst, c1]
    refine wp_seq_k fun K4 hK4 => ?_
    refine wp_region_lit ?_
    refine sv' hF (wn rfl) rfl rfl (R.buildStr (l := [_, _, _, _, _]) Try.underlying105 ze105 pl105 (hF.evp rfl) rfl) fun a hF => ?_
    refine so (wn rfl) (O.storeW sz105 (hF.ev rfl) (hF.ev rfl) rfl rfl (by simp [Value.oneCell']) hS (.t .h) rfl fun w hS => ?_)
    refine sv' hF (wn rfl) rfl rfl (R.assign (hF.ev rfl)) fun a hF => ?_
    refine s0 ?_
    refine then_n (hK4 _ _ ?_)
    refine wp_ret (then_r (hR _ _ _ _ _ hF (run_results Try.results79 (.cw hF rfl agg105 hS (.t .h) sz105 rfl (.t hF rfl (.nil)))) ?_))
    rw [e, l]
    exact ⟨_, s, rfl, ⟨by simp [retVal, tS, tH, dg], rfl⟩, hS.one (.t (.t .h))⟩
  ·
    have c1 := Classical.not_not.1 c1
    refine wp_skip ?_
    refine then_n (hK2 _ _ ?_)
    refine wp_seq_k fun K5 hK5 => ?_
    obtain ⟨bt, es, c, r, sp, rfl, hT, hPd, hL, hH⟩ := hV
    have hS := hS.openV (.t (.t .h))
    refine wp_region_lit ?_
    refine sv' hF (wn rfl) rfl rfl (R.move (hF.ev rfl)) fun a hF => ?_
    refine sv' hF (wn rfl) rfl rfl (R.nilCheck (hF.ev rfl)) fun a hF => ?_
    refine sv' hF (wn rfl) rfl rfl (R.fieldAddr (k := 0) Try.underlying100 rfl nz95 (hF.ev rfl) rfl) fun a hF => ?_
    refine sv' hF (wn rfl) rfl rfl (R.load one95 (hF.ev rfl) hS (.t (.t .h)) (rfl)) fun a hF => ?_
    refine sv' hF (wn rfl) rfl rfl (R.move (hF.ev rfl)) fun a hF => ?_
    refine sv' hF (wn rfl) rfl rfl (R.tokOk (MapIn.of hS (.t (.t (.t .h))) hT) (hF.ev rfl) (hF.ev rfl)) fun a hF => ?_
    refine sv' hF (wn rfl) rfl rfl (R.move (hF.ev rfl)) fun a hF => ?_
    refine sv' hF (wn rfl) rfl rfl (R.extract (hF.ev rfl) rfl) fun a hF => ?_
    refine sv' hF (wn rfl) rfl rfl (R.extract (hF.ev rfl) rfl) fun a hF => ?_
    refine so (wn rfl) (O.alloc rfl rfl hF ze105 rfl hS fun b6 a w hF hS => ?_)
    refine so (wn rfl) (O.storeW sz105 (hF.ev rfl) (hF.ev rfl) rfl rfl (by simp [Value.oneCell']) hS .h rfl fun w hS => ?_)
    refine sv' hF (wn rfl) rfl rfl (R.assign (hF.ev rfl)) fun a hF => ?_
    refine s0 ?_
    refine then_n (hK5 _ _ ?_)
    refine wp_seq_k fun K6 hK6 => ?_
    refine wp_seq_k fun K7 hK7 => ?_
    refine wp_region_lit ?_
    refine sv' hF (wn rfl) rfl rfl (R.move (hF.ev rfl)) fun a hF => ?_
    refine sv' hF (wn rfl) rfl rfl ((by first | exact R.notD (hF.ev rfl) | exact R.not (hF.ev rfl))) fun a hF => ?_
    refine s0 ?_
    refine then_n (hK7 _ _ ?_)
    refine cS hF rfl (fun c2 => ?_) (fun c2 => ?_)
    ·
      have c2 : (V.tok n).isSome = false := by simpa using c2
      have e : V.err n = 141 := by simp [Vau.err, c1, c2]
      have l : V.lst n = none := by simp only [Vau.lst, if_pos c1]; simpa using c2
      refine wp_seq_k fun K8 hK8 => ?_
      refine wp_region_lit ?_
      refine sv' hF (wn rfl) rfl rfl (R.buildStr (l := [_, _, _, _, _]) Try.underlying105 ze105 pl105 (hF.evp rfl) rfl) fun a hF => ?_
      refine so (wn rfl) (O.storeW sz105 (hF.ev rfl) (hF.ev rfl) rfl rfl (by simp [Value.oneCell']) hS (.t (.t .h)) rfl fun w hS => ?_)
      refine sv' hF (wn rfl) rfl rfl (R.assign (hF.ev rfl)) fun a hF => ?_
      refine s0 ?_
      refine then_n (hK8 _ _ ?_)
      refine wp_ret (then_r (hR _ _ _ _ _ hF (run_results Try.results79 (.cw hF rfl agg105 hS (.t (.t .h)) sz105 rfl (.t hF rfl (.nil)))) ?_))
      rw [e, l]
      exact ⟨_, _, rfl, ⟨by simp [retVal, tS, tH, dg], rfl⟩, (hS.sel [3, 4, 5] rfl rfl).flat (by simp [selS])⟩
    ·
      have c2 : (V.tok n).isSome = true := by simpa using c2
      have e : V.err n = 0 := by simp [Vau.err, c1, c2]
      have l : V.lst n = V.tok n := by simp only [Vau.lst, if_pos c1]
      refine wp_skip ?_
      refine then_n (hK6 _ _ ?_)
      refine wp_seq_k fun K9 hK9 => ?_
      refine wp_region_lit ?_
      refine sv' hF (wn rfl) rfl rfl (R.loadW agg105 (hF.ev rfl) hS .h sz105 rfl) fun a hF => ?_
      refine so (wn rfl) (O.storeW sz105 (hF.ev rfl) (hF.ev rfl) rfl rfl (by simp [Value.oneCell']) hS (.t (.t .h)) rfl fun w hS => ?_)
      refine sv' hF (wn rfl) rfl rfl (R.assign (hF.ev rfl)) fun a hF => ?_
      refine s0 ?_
      refine then_n (hK9 _ _ ?_)
      refine wp_ret (hR _ _ _ _ _ hF (run_results Try.results79 (.cw hF rfl agg105 hS (.t (.t .h)) sz105 rfl (.t hF rfl (.nil)))) ?_)
      rw [e, l]
      exact ⟨_, _, rfl, ⟨rfl, rfl⟩, (hS.sel [3, 4, 5] rfl rfl).flat (by simp [selS])⟩

theorem list_calls (bv : Nat) (V : Vau) (n : Int) (s : Seg) (w0 : World) (hV : VaultS bv V s) (ho : Own w0 s) : Ret Try.prog 28 [.pointer (some ⟨bv, 0, none⟩), .int .i64 n] w0 (s.map (·.1)) (fun v s' => v = .int .i64 (V.list n).2 ∧ VaultS bv (V.list n).1 s') := by
  refine fn_start Try.func28 rfl Try.ntmps28 rfl [(0, .pointer (some ⟨bv, 0, none⟩)), (1, .int .i64 n)] ⟨rfl, rfl, trivial⟩ ?_
  intro Q a hP hF hR hN
  have hS := St.enter ho
  refine wp_seq_k fun K1 hK1 => ?_
  refine wp_region_lit ?_
  refine sv' hF (wn rfl) rfl rfl (R.assign (hF.ev rfl)) fun a hF => ?_
  refine s0 ?_
  refine then_n (hK1 _ _ ?_)
  refine wp_seq_k fun K2 hK2 => ?_
  refine wp_seq_k fun K3 hK3 => ?_
  refine wp_region_lit ?_
  refine sv' hF (wn rfl) rfl rfl (R.move (hF.ev rfl)) fun a hF => ?_
  refine so (wn rfl) (O.call rfl rfl hF ent78 (hF.evs rfl) hS (may_calls n _) fun v s8 a w hR hF hS => ?_)
  obtain ⟨rfl, rfl⟩ := hR
  refine sv' hF (wn rfl) rfl rfl ((by first | exact R.notD (hF.ev rfl) | exact R.not (hF.ev rfl))) fun a hF => ?_
  refine s0 ?_
  refine then_n (hK3 _ _ ?_)
  refine cD hF rfl (fun c1 => ?_) (fun c1 => ?_)
  ·
    refine wp_seq_k fun K4 hK4 => ?_
    refine wp_region_lit ?_
    refine sv' hF (wn rfl) rfl rfl (R.assign (hF.ev rfl)) fun a hF => ?_
    refine s0 ?_
    refine then_n (hK4 _ _ ?_)
    refine wp_ret (then_r (hR _ _ _ _ _ hF (run_results Try.results28 (.t hF rfl (.nil))) ?_))
    have e : V.list n = (V, 140) := by simp [Vau.list, c1]
    rw [e]
    exact ⟨_, s, rfl, ⟨rfl, hV⟩, hS.one (.t .h)⟩
  ·
    have c1 := Classical.not_not.1 c1
    refine wp_skip ?_
    refine then_n (hK2 _ _ ?_)
    refine wp_seq_k fun K5 hK5 => ?_
    refine wp_seq_k fun K6 hK6 => ?_
    obtain ⟨bt, es, c, r, sp, rfl, hT, hPd, hL, hH⟩ := hV
    have hS := hS.openV (.t .h)
    refine wp_region_lit ?_
    refine sv' hF (wn rfl) rfl rfl (R.move (hF.ev rfl)) fun a hF => ?_
    refine sv' hF (wn rfl) rfl rfl (R.nilCheck (hF.ev rfl)) fun a hF => ?_
    refine sv' hF (wn rfl) rfl rfl (R.fieldAddr (k := 0) Try.underlying100 rfl nz95 (hF.ev rfl) rfl) fun a hF => ?_
    refine sv' hF (wn rfl) rfl rfl (R.load one95 (hF.ev rfl) hS (.t .h) (rfl)) fun a hF => ?_
    refine sv' hF (wn rfl) rfl rfl (R.move (hF.ev rfl)) fun a hF => ?_
    refine sv' hF (wn rfl) rfl rfl (R.tokOk (MapIn.of hS (.t (.t .h)) hT) (hF.ev rfl) (hF.ev rfl)) fun a hF => ?_
    refine sv' hF (wn rfl) rfl rfl (R.move (hF.ev rfl)) fun a hF => ?_
    refine sv' hF (wn rfl) rfl rfl (R.extract (hF.ev rfl) rfl) fun a hF => ?_
    refine sv' hF (wn rfl) rfl rfl (R.extract (hF.ev rfl) rfl) fun a hF => ?_
    refine so (wn rfl) (O.alloc rfl rfl hF ze105 rfl hS fun b5 a w hF hS => ?_)
    refine so (wn rfl) (O.storeW sz105 (hF.ev rfl) (hF.ev rfl) rfl rfl (by simp [Value.oneCell']) hS .h rfl fun w hS => ?_)
    refine sv' hF (wn rfl) rfl rfl (R.assign (hF.ev rfl)) fun a hF => ?_
    refine s0 ?_
    refine then_n (hK6 _ _ ?_)
    refine wp_seq_k fun K7 hK7 => ?_
    refine wp_region_lit ?_
    refine sv' hF (wn rfl) rfl rfl (R.move (hF.ev rfl)) fun a hF => ?_
    refine s0 ?_
    refine then_n (hK7 _ _ ?_)
    refine cS hF rfl (fun c2 => ?_) (fun c2 => ?_)
    ·
      refine wp_seq_k fun K8 hK8 => ?_
      refine wp_region_lit ?_
      refine sv' hF (wn rfl) rfl rfl (R.assign (hF.ev rfl)) fun a hF => ?_
      refine s0 ?_
      refine then_n (hK8 _ _ ?_)
      refine wp_ret (then_r (hR _ _ _ _ _ hF (run_results Try.results28 (.t hF rfl (.nil))) ?_))
      have e : V.list n = (V, 142) := by simp [Vau.list, c1, c2]
      rw [e]
      obtain ⟨s', h1, h2⟩ := VaultS.close (hS.sel [2, 3, 4] rfl rfl) hT hPd hL hH
      exact ⟨_, s', rfl, ⟨rfl, h1⟩, h2⟩
    ·
      refine wp_skip ?_
      refine then_n (hK5 _ _ ?_)
      refine wp_seq_k fun K9 hK9 => ?_
      refine wp_region_lit ?_
      refine sv' hF (wn rfl) rfl rfl (R.move (hF.ev rfl)) fun a hF => ?_
      refine sv' hF (wn rfl) rfl rfl (R.nilCheck (hF.ev rfl)) fun a hF => ?_
      refine sv' hF (wn rfl) rfl rfl (R.fieldAddr (k := 0) Try.underlying100 rfl nz95 (hF.ev rfl) rfl) fun a hF => ?_
      refine sv' hF (wn rfl) rfl rfl (R.load one95 (hF.ev rfl) hS (.t (.t .h)) (rfl)) fun a hF => ?_
      refine sv' hF (wn rfl) rfl rfl (R.move (hF.ev rfl)) fun a hF => ?_
      refine sv' hF (wn rfl) rfl rfl (R.buildStr (l := [_, _, _, _, _]) Try.underlying105 ze105 pl105 (hF.evp rfl) rfl) fun a hF => ?_
      refine so (wn rfl) (O.mapUpdate Try.underlying95 Try.underlying3 (hF.ev rfl) (hF.ev rfl) (hF.ev rfl) rfl (hT) hS (fun _ => (.t (.t (.t .h)))) fun es' c' w hM hS => ?_)
      rw [show (Value.agg #[.bool false, .int .u64 0, .int .u64 0, .int .u64 0, .int .u64 0]) = .agg (tokL (some (false, 0))).toArray from by simp [tS, tH, dg], tokF_upd] at hM
      refine s0 ?_
      refine then_n (hK9 _ _ ?_)
      refine wp_seq_k fun K10 hK10 => ?_
      refine wp_region_lit ?_
      refine sv' hF (wn rfl) rfl rfl (R.assign (hF.ev rfl)) fun a hF => ?_
      refine s0 ?_
      refine then_n (hK10 _ _ ?_)
      refine wp_ret (hR _ _ _ _ _ hF (run_results Try.results28 (.t hF rfl (.nil))) ?_)
      have e : V.list n = ({ V with tok := updF V.tok n (some (false, 0)) }, 0) := by simp [Vau.list, c1, c2]
      rw [e]
      obtain ⟨s', h1, h2⟩ := VaultS.close (V := { V with tok := updF V.tok n (some (false, 0)) }) (hS.sel [2, 3, 4] rfl rfl) hM hPd hL (tH_upd hH (by decide))
      exact ⟨_, s', rfl, ⟨rfl, h1⟩, h2⟩

theorem deposit_calls (bv : Nat) (V : Vau) (n : Int) (x : Nat) (s : Seg) (w0 : World) (hV : VaultS bv V s) (ho : Own w0 s) (hx : x < 115792089237316195423570985008687907853269984665640564039457584007913129639936) : Ret Try.prog 29 [.pointer (some ⟨bv, 0, none⟩), .int .i64 n, wv x] w0 (s.map (·.1)) (fun v s' => v = .int .i64 (V.deposit n x).2 ∧ VaultS bv (V.deposit n x).1 s') := by
  refine fn_start Try.func29 rfl Try.ntmps29 rfl [(0, .pointer (some ⟨bv, 0, none⟩)), (1, .int .i64 n), (2, wv x)] ⟨rfl, rfl, rfl, trivial⟩ ?_
  intro Q a hP hF hR hN
  have hS := St.enter ho
  refine wp_seq_k fun K1 hK1 => ?_
  refine wp_region_lit ?_
  refine so (wn rfl) (O.box rfl rfl hF (hF.ev rfl) rfl hS fun b5 a w hF hS => ?_)
  refine sv' hF (wn rfl) rfl rfl (R.assign (hF.ev rfl)) fun a hF => ?_
  refine s0 ?_
  refine then_n (hK1 _ _ ?_)
  refine wp_seq_k fun K2 hK2 => ?_
  refine wp_region_lit ?_
  refine sv' hF (wn rfl) rfl rfl (R.move (hF.ev rfl)) fun a hF => ?_
  refine sv' hF (wn rfl) rfl rfl (R.move (hF.ev rfl)) fun a hF => ?_
  refine so (wn rfl) (O.callK rfl rfl hF ent79 (hF.evs rfl) hS (listed_calls bv V n s _ hV (hS.own1 (.t .h))) (fun _ => (.t .h)) fun v s12 a w hR hF hS => ?_)
  obtain ⟨rfl, he⟩ := hR
  rw [he] at hS
  refine sv' hF (wn rfl) rfl rfl (R.move (hF.ev rfl)) fun a hF => ?_
  refine sv' hF (wn rfl) rfl rfl (R.extract (hF.ev rfl) rfl) fun a hF => ?_
  refine sv' hF (wn rfl) rfl rfl (R.extract (hF.ev rfl) rfl) fun a hF => ?_
  refine so (wn rfl) (O.alloc rfl rfl hF ze105 rfl hS fun b7 a w hF hS => ?_)
  refine so (wn rfl) (O.storeW sz105 (hF.ev rfl) (hF.ev rfl) rfl rfl (by simp [Value.oneCell']) hS .h rfl fun w hS => ?_)
  refine sv' hF (wn rfl) rfl rfl (R.assign (hF.ev rfl)) fun a hF => ?_
  refine s0 ?_
  refine then_n (hK2 _ _ ?_)
  refine wp_seq_k fun K3 hK3 => ?_
  refine wp_block ?_
  refine wp_seq_k fun K4 hK4 => ?_
  refine wp_region_lit ?_
  refine sv' hF (wn rfl) rfl rfl (R.move (hF.ev rfl)) fun a hF => ?_
  refine sv' hF (wn rfl) rfl rfl (R.neq (hF.ev rfl) (hF.ev rfl)) fun a hF => ?_
  refine sv' hF (wn rfl) rfl rfl (R.assign (hF.ev rfl)) fun a hF => ?_
  refine s0 ?_
  refine then_n (hK4 _ _ ?_)
  refine cD hF rfl (fun c1 => ?_) (fun c1 => ?_)
  ·
    refine wp_seq_k fun K5 hK5 => ?_
    refine wp_region_lit ?_
    refine sv' hF (wn rfl) rfl rfl (R.move (hF.ev rfl)) fun a hF => ?_
    refine sv' hF (wn rfl) rfl rfl (R.assign (hF.ev rfl)) fun a hF => ?_
    refine s0 ?_
    refine then_n (hK5 _ _ ?_)
    refine wp_ret (blk_r (then_r (hR _ _ _ _ _ hF (run_results Try.results29 (.t hF rfl (.nil))) ?_)))
    have e : V.deposit n x = (V, (V.err n)) := by simp only [Vau.deposit, if_pos c1]
    rw [e]
    exact ⟨_, s, rfl, ⟨rfl, hV⟩, hS.one (.t (.t .h))⟩
  ·
    have c1 : V.err n = 0 := by omega
    have l : V.lst n = V.tok n := lst_of c1
    rw [l] at hS
    have it := isSome_of c1
    refine wp_seq_k fun K6 hK6 => ?_
    refine wp_region_lit ?_
    refine sv' hF (wn rfl) rfl rfl (R.fieldAddr (k := 0) Try.underlying105 rfl nz4 (hF.ev rfl) rfl) fun a hF => ?_
    refine sv' hF (wn rfl) rfl rfl (R.load one4 (hF.ev rfl) hS .h (rfl)) fun a hF => ?_
    refine sv' hF (wn rfl) rfl rfl (R.assign (hF.ev rfl)) fun a hF => ?_
    refine s0 ?_
    refine then_n (hK6 _ _ ?_)
    refine cS hF rfl (fun c2 => ?_) (fun c2 => ?_)
    ·
      refine wp_seq_k fun K7 hK7 => ?_
      refine wp_region_lit ?_
      refine sv' hF (wn rfl) rfl rfl (R.assign (hF.ev rfl)) fun a hF => ?_
      refine s0 ?_
      refine then_n (hK7 _ _ ?_)
      refine wp_ret (blk_r (then_r (hR _ _ _ _ _ hF (run_results Try.results29 (.t hF rfl (.nil))) ?_)))
      have e : V.deposit n x = (V, 143) := by simp [Vau.deposit, c1, c2]
      rw [e]
      exact ⟨_, s, rfl, ⟨rfl, hV⟩, hS.one (.t (.t .h))⟩
    ·
      refine wp_seq_k fun K8 hK8 => ?_
      refine wp_region_lit ?_
      refine sv' hF (wn rfl) rfl rfl (R.loadW agg29 (hF.ev rfl) hS (.t .h) sz29 rfl) fun a hF => ?_
      refine so (wn rfl) (O.call rfl rfl hF ent54 (hF.evs rfl) hS (isZero_calls x w hx) fun v s24 a w hR hF hS => ?_)
      obtain ⟨rfl, rfl⟩ := hR
      refine sv' hF (wn rfl) rfl rfl (R.assign (hF.ev rfl)) fun a hF => ?_
      refine s0 ?_
      refine then_n (hK8 _ _ ?_)
      refine cD hF rfl (fun c3 => ?_) (fun c3 => ?_)
      ·
        refine wp_seq_k fun K9 hK9 => ?_
        refine wp_region_lit ?_
        refine sv' hF (wn rfl) rfl rfl (R.assign (hF.ev rfl)) fun a hF => ?_
        refine s0 ?_
        refine then_n (hK9 _ _ ?_)
        refine wp_ret (blk_r (then_r (hR _ _ _ _ _ hF (run_results Try.results29 (.t hF rfl (.nil))) ?_)))
        have e : V.deposit n x = (V, 144) := by simp [Vau.deposit, c1, c2, c3]
        rw [e]
        exact ⟨_, s, rfl, ⟨rfl, hV⟩, hS.one (.t (.t (.t .h)))⟩
      ·
        refine wp_skip ?_
        refine blk_n ?_
        refine then_n (hK3 _ _ ?_)
        refine wp_seq_k fun K10 hK10 => ?_
        refine wp_seq_k fun K11 hK11 => ?_
        refine wp_region_lit ?_
        refine sv' hF (wn rfl) rfl rfl (R.fieldAddr (k := 1) Try.underlying105 rfl nz29 (hF.ev rfl) rfl) fun a hF => ?_
        refine sv' hF (wn rfl) rfl rfl (R.loadA (cs := wc (tH (V.tok n))) agg29 (hF.ev rfl) hS (.t .h) sz29 rfl (getAt rfl)) fun a hF => ?_
        refine sv' hF (wn rfl) rfl rfl (R.loadW agg29 (hF.ev rfl) hS (.t (.t .h)) sz29 rfl) fun a hF => ?_
        refine so (wn rfl) (O.call rfl rfl hF ent41 (hF.evs rfl) hS (add_calls (tH (V.tok n)) x w (hV.tH_lt n) hx) fun v s29 a w hR hF hS => ?_)
        obtain ⟨rfl, rfl⟩ := hR
        refine sv' hF (wn rfl) rfl rfl (R.move (hF.ev rfl)) fun a hF => ?_
        refine sv' hF (wn rfl) rfl rfl (R.extract (hF.ev rfl) rfl) fun a hF => ?_
        refine sv' hF (wn rfl) rfl rfl (R.extract (hF.ev rfl) rfl) fun a hF => ?_
        refine sv' hF (wn rfl) rfl rfl (R.fieldAddr (k := 1) Try.underlying105 rfl nz29 (hF.ev rfl) rfl) fun a hF => ?_
        refine so (wn rfl) (O.storeA sz29 (hF.ev rfl) (hF.ev rfl) rfl rfl (by simp [Value.oneCell']) hS (.t (.t .h)) (show spl _ _ _ = tokL (some (tS (V.tok n), (if tH (V.tok n) + x < 115792089237316195423570985008687907853269984665640564039457584007913129639936 then tH (V.tok n) + x else 0))) from rfl) (by first | decide | simp) fun w hS => ?_)
        refine sv' hF (wn rfl) rfl rfl (R.assign (hF.ev rfl)) fun a hF => ?_
        refine s0 ?_
        refine then_n (hK11 _ _ ?_)
        refine wp_seq_k fun K12 hK12 => ?_
        refine wp_region_lit ?_
        refine sv' hF (wn rfl) rfl rfl (R.move (hF.ev rfl)) fun a hF => ?_
        refine sv' hF (wn rfl) rfl rfl (R.neq (hF.ev rfl) (hF.ev rfl)) fun a hF => ?_
        refine s0 ?_
        refine then_n (hK12 _ _ ?_)
        refine cD hF rfl (fun c4 => ?_) (fun c4 => ?_)
        ·
          have c4 : ¬ (tH (V.tok n) + x < 115792089237316195423570985008687907853269984665640564039457584007913129639936) := fun h => by rw [if_pos h] at c4; exact c4 rfl
          refine wp_seq_k fun K13 hK13 => ?_
          refine wp_region_lit ?_
          refine sv' hF (wn rfl) rfl rfl (R.assign (hF.ev rfl)) fun a hF => ?_
          refine s0 ?_
          refine then_n (hK13 _ _ ?_)
          refine wp_ret (then_r (hR _ _ _ _ _ hF (run_results Try.results29 (.t hF rfl (.nil))) ?_))
          have e : V.deposit n x = (V, 145) := by simp [Vau.deposit, c1, c2, c3, c4]
          rw [e]
          exact ⟨_, s, rfl, ⟨rfl, hV⟩, hS.one (.t (.t (.t (.t .h))))⟩
        ·
          have c4 : tH (V.tok n) + x < 115792089237316195423570985008687907853269984665640564039457584007913129639936 := by by_cases h : tH (V.tok n) + x < 115792089237316195423570985008687907853269984665640564039457584007913129639936; exact h; rw [if_neg h] at c4; exact absurd c4 (by decide)
          rw [if_pos c4] at hS
          refine wp_skip ?_
          refine then_n (hK10 _ _ ?_)
          refine wp_seq_k fun K14 hK14 => ?_
          obtain ⟨bt, es, c, r, sp, rfl, hT, hPd, hL, hH⟩ := hV
          have hS := hS.openV (.t (.t (.t (.t .h))))
          refine wp_drawS hS [(0, 0), (1, 0), (2, 0), (3, 1), (4, 0), (5, 1), (6, 3)] mix (by kernel_rfl) (hP.then) fun w hS => ?_
          have hD := hS
          refine dq hF rfl (wn rfl) rfl rfl (fun w => R.move (hF.ev rfl)) fun a hF => ?_
          refine dq hF rfl (wn rfl) rfl rfl (fun w => R.nilCheck (hF.ev rfl)) fun a hF => ?_
          refine dq hF rfl (wn rfl) rfl rfl (fun w => R.fieldAddr (k := 0) Try.underlying100 rfl nz95 (hF.ev rfl) rfl) fun a hF => ?_
          refine dr hF rfl (wn rfl) rfl rfl hD (fun w hD => R.load one95 (hF.ev rfl) hD (.t (.t (.t (.t .h)))) (rfl)) fun a hF => ?_
          refine dq hF rfl (wn rfl) rfl rfl (fun w => R.move (hF.ev rfl)) fun a hF => ?_
          refine dr hF rfl (wn rfl) rfl rfl hD (fun w hD => R.loadW agg105 (hF.ev rfl) hD (.t (.t .h)) sz105 rfl) fun a hF => ?_
          refine dw rfl (wn rfl) (O.mapUpdate Try.underlying95 Try.underlying3 (hF.ev rfl) (hF.ev rfl) (hF.ev rfl) rfl (hT) hS (fun _ => (.t (.t (.t (.t (.t .h)))))) fun es' c' w hM hS => ?_)
          rw [tokF_upd] at hM
          refine d0 ?_
          refine then_n (hK14 _ _ ?_)
          refine wp_seq_k fun K15 hK15 => ?_
          refine wp_region_lit ?_
          refine sv' hF (wn rfl) rfl rfl (R.assign (hF.ev rfl)) fun a hF => ?_
          refine s0 ?_
          refine then_n (hK15 _ _ ?_)
          refine wp_ret (hR _ _ _ _ _ hF (run_results Try.results29 (.t hF rfl (.nil))) ?_)
          have e : V.deposit n x = ({ V with tok := updF V.tok n (some (tS (V.tok n), tH (V.tok n) + x)) }, 0) := by simp [Vau.deposit, c1, c2, c3, c4]
          rw [e]
          obtain ⟨s', h1, h2⟩ := VaultS.close (V := { V with tok := updF V.tok n (some (tS (V.tok n), tH (V.tok n) + x)) }) (hS.sel [4, 5, 6] rfl rfl) hM hPd hL (tH_upd hH c4)
          exact ⟨_, s', rfl, ⟨rfl, h1⟩, h2⟩

theorem stop_calls (bv : Nat) (V : Vau) (n : Int) (b : Bool) (s : Seg) (w0 : World) (hV : VaultS bv V s) (ho : Own w0 s) : Ret Try.prog 32 [.pointer (some ⟨bv, 0, none⟩), .int .i64 n, .bool b] w0 (s.map (·.1)) (fun v s' => v = .int .i64 (V.stop n b).2 ∧ VaultS bv (V.stop n b).1 s') := by
  refine fn_start Try.func32 rfl Try.ntmps32 rfl [(0, .pointer (some ⟨bv, 0, none⟩)), (1, .int .i64 n), (2, .bool b)] ⟨rfl, rfl, rfl, trivial⟩ ?_
  intro Q a hP hF hR hN
  have hS := St.enter ho
  refine wp_seq_k fun K1 hK1 => ?_
  refine wp_region_lit ?_
  refine sv' hF (wn rfl) rfl rfl (R.assign (hF.ev rfl)) fun a hF => ?_
  refine s0 ?_
  refine then_n (hK1 _ _ ?_)
  refine wp_seq_k fun K2 hK2 => ?_
  refine wp_region_lit ?_
  refine sv' hF (wn rfl) rfl rfl (R.move (hF.ev rfl)) fun a hF => ?_
  refine sv' hF (wn rfl) rfl rfl (R.move (hF.ev rfl)) fun a hF => ?_
  refine so (wn rfl) (O.callK rfl rfl hF ent79 (hF.evs rfl) hS (listed_calls bv V n s _ hV (hS.own1 .h)) (fun _ => .h) fun v s12 a w hR hF hS => ?_)
  obtain ⟨rfl, he⟩ := hR
  rw [he] at hS
  refine sv' hF (wn rfl) rfl rfl (R.move (hF.ev rfl)) fun a hF => ?_
  refine sv' hF (wn rfl) rfl rfl (R.extract (hF.ev rfl) rfl) fun a hF => ?_
  refine sv' hF (wn rfl) rfl rfl (R.extract (hF.ev rfl) rfl) fun a hF => ?_
  refine so (wn rfl) (O.alloc rfl rfl hF ze105 rfl hS fun b7 a w hF hS => ?_)
  refine so (wn rfl) (O.storeW sz105 (hF.ev rfl) (hF.ev rfl) rfl rfl (by simp [Value.oneCell']) hS .h rfl fun w hS => ?_)
  refine sv' hF (wn rfl) rfl rfl (R.assign (hF.ev rfl)) fun a hF => ?_
  refine s0 ?_
  refine then_n (hK2 _ _ ?_)
  refine wp_seq_k fun K3 hK3 => ?_
  refine wp_block ?_
  refine wp_seq_k fun K4 hK4 => ?_
  refine wp_region_lit ?_
  refine sv' hF (wn rfl) rfl rfl (R.move (hF.ev rfl)) fun a hF => ?_
  refine sv' hF (wn rfl) rfl rfl (R.neq (hF.ev rfl) (hF.ev rfl)) fun a hF => ?_
  refine sv' hF (wn rfl) rfl rfl (R.assign (hF.ev rfl)) fun a hF => ?_
  refine s0 ?_
  refine then_n (hK4 _ _ ?_)
  refine cD hF rfl (fun c1 => ?_) (fun c1 => ?_)
  ·
    refine wp_seq_k fun K5 hK5 => ?_
    refine wp_region_lit ?_
    refine sv' hF (wn rfl) rfl rfl (R.move (hF.ev rfl)) fun a hF => ?_
    refine sv' hF (wn rfl) rfl rfl (R.assign (hF.ev rfl)) fun a hF => ?_
    refine s0 ?_
    refine then_n (hK5 _ _ ?_)
    refine wp_ret (blk_r (then_r (hR _ _ _ _ _ hF (run_results Try.results32 (.t hF rfl (.nil))) ?_)))
    have e : V.stop n b = (V, (V.err n)) := by simp only [Vau.stop, if_pos c1]
    rw [e]
    exact ⟨_, s, rfl, ⟨rfl, hV⟩, hS.one (.t .h)⟩
  ·
    have c1 : V.err n = 0 := by omega
    have l : V.lst n = V.tok n := lst_of c1
    rw [l] at hS
    have it := isSome_of c1
    refine wp_seq_k fun K6 hK6 => ?_
    refine wp_region_lit ?_
    refine sv' hF (wn rfl) rfl rfl (R.fieldAddr (k := 0) Try.underlying105 rfl nz4 (hF.ev rfl) rfl) fun a hF => ?_
    refine sv' hF (wn rfl) rfl rfl (R.load one4 (hF.ev rfl) hS .h (rfl)) fun a hF => ?_
    refine sv' hF (wn rfl) rfl rfl (R.move (hF.ev rfl)) fun a hF => ?_
    refine sv' hF (wn rfl) rfl rfl (R.eqlB (hF.ev rfl) (hF.ev rfl) Try.underlying4) fun a hF => ?_
    refine sv' hF (wn rfl) rfl rfl (R.assign (hF.ev rfl)) fun a hF => ?_
    refine s0 ?_
    refine then_n (hK6 _ _ ?_)
    refine cD hF rfl (fun c2 => ?_) (fun c2 => ?_)
    ·
      refine wp_seq_k fun K7 hK7 => ?_
      refine wp_region_lit ?_
      refine sv' hF (wn rfl) rfl rfl (R.assign (hF.ev rfl)) fun a hF => ?_
      refine s0 ?_
      refine then_n (hK7 _ _ ?_)
      refine wp_ret (blk_r (then_r (hR _ _ _ _ _ hF (run_results Try.results32 (.t hF rfl (.nil))) ?_)))
      have e : V.stop n b = (V, 143) := by simp [Vau.stop, c1, c2]
      rw [e]
      exact ⟨_, s, rfl, ⟨rfl, hV⟩, hS.one (.t .h)⟩
    ·
      refine wp_skip ?_
      refine blk_n ?_
      refine then_n (hK3 _ _ ?_)
      refine wp_seq_k fun K8 hK8 => ?_
      refine wp_region_lit ?_
      refine sv' hF (wn rfl) rfl rfl (R.move (hF.ev rfl)) fun a hF => ?_
      refine sv' hF (wn rfl) rfl rfl (R.fieldAddr (k := 0) Try.underlying105 rfl nz4 (hF.ev rfl) rfl) fun a hF => ?_
      refine so (wn rfl) (O.store sz4 (hF.ev rfl) (hF.ev rfl) rfl rfl hS .h (show List.set _ _ _ = tokL (some (b, tH (V.tok n))) from rfl) (by first | decide | omega | simp) fun w hS => ?_)
      refine s0 ?_
      refine then_n (hK8 _ _ ?_)
      refine wp_seq_k fun K9 hK9 => ?_
      obtain ⟨bt, es, c, r, sp, rfl, hT, hPd, hL, hH⟩ := hV
      have hS := hS.openV (.t .h)
      refine wp_drawS hS [(0, 0), (1, 0), (2, 0), (3, 1), (4, 0), (5, 1), (6, 3)] mix (by kernel_rfl) (hP.then) fun w hS => ?_
      have hD := hS
      refine dq hF rfl (wn rfl) rfl rfl (fun w => R.move (hF.ev rfl)) fun a hF => ?_
      refine dq hF rfl (wn rfl) rfl rfl (fun w => R.nilCheck (hF.ev rfl)) fun a hF => ?_
      refine dq hF rfl (wn rfl) rfl rfl (fun w => R.fieldAddr (k := 0) Try.underlying100 rfl nz95 (hF.ev rfl) rfl) fun a hF => ?_
      refine dr hF rfl (wn rfl) rfl rfl hD (fun w hD => R.load one95 (hF.ev rfl) hD (.t .h) (rfl)) fun a hF => ?_
      refine dq hF rfl (wn rfl) rfl rfl (fun w => R.move (hF.ev rfl)) fun a hF => ?_
      refine dr hF rfl (wn rfl) rfl rfl hD (fun w hD => R.loadW agg105 (hF.ev rfl) hD .h sz105 rfl) fun a hF => ?_
      refine dw rfl (wn rfl) (O.mapUpdate Try.underlying95 Try.underlying3 (hF.ev rfl) (hF.ev rfl) (hF.ev rfl) rfl (hT) hS (fun _ => (.t (.t .h))) fun es' c' w hM hS => ?_)
      rw [tokF_upd] at hM
      refine d0 ?_
      refine then_n (hK9 _ _ ?_)
      refine wp_seq_k fun K10 hK10 => ?_
      refine wp_region_lit ?_
      refine sv' hF (wn rfl) rfl rfl (R.assign (hF.ev rfl)) fun a hF => ?_
      refine s0 ?_
      refine then_n (hK10 _ _ ?_)
      refine wp_ret (hR _ _ _ _ _ hF (run_results Try.results32 (.t hF rfl (.nil))) ?_)
      have e : V.stop n b = ({ V with tok := updF V.tok n (some (b, tH (V.tok n))) }, 0) := by simp [Vau.stop, c1, c2]
      rw [e]
      obtain ⟨s', h1, h2⟩ := VaultS.close (V := { V with tok := updF V.tok n (some (b, tH (V.tok n))) }) (hS.sel [1, 2, 3] rfl rfl) hM hPd hL (tH_upd hH (hH n))
      exact ⟨_, s', rfl, ⟨rfl, h1⟩, h2⟩

theorem lock_calls (bv : Nat) (V : Vau) (x : Nat) (s : Seg) (w0 : World) (hV : VaultS bv V s) (ho : Own w0 s) (hx : x < 115792089237316195423570985008687907853269984665640564039457584007913129639936) : Ret Try.prog 33 [.pointer (some ⟨bv, 0, none⟩), wv x] w0 (s.map (·.1)) (fun v s' => v = .int .i64 (V.lockIt x).2 ∧ VaultS bv (V.lockIt x).1 s') := by
  refine fn_start Try.func33 rfl Try.ntmps33 rfl [(0, .pointer (some ⟨bv, 0, none⟩)), (1, wv x)] ⟨rfl, rfl, trivial⟩ ?_
  intro Q a hP hF hR hN
  have hS := St.enter ho
  refine wp_seq_k fun K1 hK1 => ?_
  refine wp_region_lit ?_
  refine so (wn rfl) (O.box rfl rfl hF (hF.ev rfl) rfl hS fun b3 a w hF hS => ?_)
  refine sv' hF (wn rfl) rfl rfl (R.assign (hF.ev rfl)) fun a hF => ?_
  refine s0 ?_
  refine then_n (hK1 _ _ ?_)
  refine wp_seq_k fun K2 hK2 => ?_
  obtain ⟨bt, es, c, r, sp, rfl, hT, hPd, hL, hH⟩ := hV
  have hS := hS.openV (.t .h)
  refine wp_draw2S hS [(0, 0), (1, 0), (2, 0), (3, 1), (4, 1)] [[(5, 2), (6, 0), (7, 0), (8, 0), (9, 2), (10, 3), (11, 0)], [(9, 2), (5, 2), (6, 0), (7, 0), (8, 0), (10, 3), (11, 0)]] mix (by kernel_rfl) (hP.then) fun w hS => ?_
  have hD := hS
  refine dq hF rfl (wn rfl) rfl rfl (fun w => R.move (hF.ev rfl)) fun a hF => ?_
  refine dq hF rfl (wn rfl) rfl rfl (fun w => R.nilCheck (hF.ev rfl)) fun a hF => ?_
  refine dq hF rfl (wn rfl) rfl rfl (fun w => R.fieldAddr (k := 2) Try.underlying100 rfl nz29 (hF.ev rfl) rfl) fun a hF => ?_
  refine dr hF rfl (wn rfl) rfl rfl hD (fun w hD => R.loadA (cs := wc V.lock) agg29 (hF.ev rfl) hD (.t .h) sz29 rfl (getAt rfl)) fun a hF => ?_
  refine dr hF rfl (wn rfl) rfl rfl hD (fun w hD => R.loadW agg29 (hF.ev rfl) hD .h sz29 rfl) fun a hF => ?_
  refine d0 ?_
  refine alts2 ?_ ?_
  ·
    refine dl rfl (wn rfl) (O.call rfl rfl hF ent41 (hF.evs rfl) hS (add_calls V.lock x w hL hx) fun v s13 a w hR hF hS => ⟨fun hD => hS.tail, ?_⟩)
    obtain ⟨rfl, rfl⟩ := hR
    have hD := hS.tail
    refine dq hF rfl (wn rfl) rfl rfl (fun w => R.move (hF.ev rfl)) fun a hF => ?_
    refine dq hF rfl (wn rfl) rfl rfl (fun w => R.extract (hF.ev rfl) rfl) fun a hF => ?_
    refine dq hF rfl (wn rfl) rfl rfl (fun w => R.extract (hF.ev rfl) rfl) fun a hF => ?_
    refine dl rfl (wn rfl) (O.alloc rfl rfl hF ze29 rfl hS fun b5 a w hF hS => ⟨fun hD => hS.tail.tail, ?_⟩)
    have hD := hS.tail.tail
    refine dw rfl (wn rfl) (O.storeW sz29 (hF.ev rfl) (hF.ev rfl) rfl rfl (by simp [Value.oneCell']) hS .h rfl fun w hS => ?_)
    refine dq hF rfl (wn rfl) rfl rfl (fun w => R.assign (hF.ev rfl)) fun a hF => ?_
    refine d0 ?_
    refine then_n (hK2 _ _ ?_)
    refine wp_seq_k fun K3 hK3 => ?_
    refine wp_seq_k fun K4 hK4 => ?_
    refine wp_region_lit ?_
    refine sv' hF (wn rfl) rfl rfl (R.move (hF.ev rfl)) fun a hF => ?_
    refine sv' hF (wn rfl) rfl rfl (R.neq (hF.ev rfl) (hF.ev rfl)) fun a hF => ?_
    refine s0 ?_
    refine then_n (hK4 _ _ ?_)
    refine cD hF rfl (fun c1 => ?_) (fun c1 => ?_)
    ·
      have c1 : ¬ (V.lock + x < 115792089237316195423570985008687907853269984665640564039457584007913129639936) := fun h => by rw [if_pos h] at c1; exact c1 rfl
      refine wp_seq_k fun K5 hK5 => ?_
      refine wp_region_lit ?_
      refine sv' hF (wn rfl) rfl rfl (R.assign (hF.ev rfl)) fun a hF => ?_
      refine s0 ?_
      refine then_n (hK5 _ _ ?_)
      refine wp_ret (then_r (hR _ _ _ _ _ hF (run_results Try.results33 (.t hF rfl (.nil))) ?_))
      have e : V.lockIt x = (V, 145) := by simp [Vau.lockIt, c1]
      rw [e]
      obtain ⟨s', h1, h2⟩ := VaultS.close (hS.sel [3, 4, 5] rfl rfl) hT hPd hL hH
      exact ⟨_, s', rfl, ⟨rfl, h1⟩, h2⟩
    ·
      have c1 : V.lock + x < 115792089237316195423570985008687907853269984665640564039457584007913129639936 := by by_cases h : V.lock + x < 115792089237316195423570985008687907853269984665640564039457584007913129639936; exact h; rw [if_neg h] at c1; exact absurd c1 (by decide)
      rw [if_pos c1] at hS
      refine wp_skip ?_
      refine then_n (hK3 _ _ ?_)
      refine wp_seq_k fun K6 hK6 => ?_
      refine wp_region_lit ?_
      refine sv' hF (wn rfl) rfl rfl (R.move (hF.ev rfl)) fun a hF => ?_
      refine sv' hF (wn rfl) rfl rfl (R.loadW agg29 (hF.ev rfl) hS .h sz29 rfl) fun a hF => ?_
      refine sv' hF (wn rfl) rfl rfl (R.nilCheck (hF.ev rfl)) fun a hF => ?_
      refine sv' hF (wn rfl) rfl rfl (R.fieldAddr (k := 2) Try.underlying100 rfl nz29 (hF.ev rfl) rfl) fun a hF => ?_
      refine so (wn rfl) (O.storeA sz29 (hF.ev rfl) (hF.ev rfl) rfl rfl (by simp [Value.oneCell']) hS (.t (.t (.t .h))) (show spl _ _ _ = .map (some bt) :: .map r :: wc (V.lock + x) from rfl) (by first | decide | simp) fun w hS => ?_)
      refine s0 ?_
      refine then_n (hK6 _ _ ?_)
      refine wp_seq_k fun K7 hK7 => ?_
      refine wp_region_lit ?_
      refine sv' hF (wn rfl) rfl rfl (R.assign (hF.ev rfl)) fun a hF => ?_
      refine s0 ?_
      refine then_n (hK7 _ _ ?_)
      refine wp_ret (hR _ _ _ _ _ hF (run_results Try.results33 (.t hF rfl (.nil))) ?_)
      have e : V.lockIt x = ({ V with lock := V.lock + x }, 0) := by simp [Vau.lockIt, c1]
      rw [e]
      obtain ⟨s', h1, h2⟩ := VaultS.close (V := { V with lock := V.lock + x }) (hS.sel [3, 4, 5] rfl rfl) hT hPd c1 (hH)
      exact ⟨_, s', rfl, ⟨rfl, h1⟩, h2⟩
  ·
    refine dl rfl (wn rfl) (O.alloc rfl rfl hF ze29 rfl hS fun b5 a w hF hS => ⟨fun hD => hS.tail, ?_⟩)
    have hD := hS.tail
    refine dl rfl (wn rfl) (O.call rfl rfl hF ent41 (hF.evs rfl) hS (add_calls V.lock x w hL hx) fun v s13 a w hR hF hS => ⟨fun hD => hS.tail.tail, ?_⟩)
    obtain ⟨rfl, rfl⟩ := hR
    have hD := hS.tail.tail
    refine dq hF rfl (wn rfl) rfl rfl (fun w => R.move (hF.ev rfl)) fun a hF => ?_
    refine dq hF rfl (wn rfl) rfl rfl (fun w => R.extract (hF.ev rfl) rfl) fun a hF => ?_
    refine dq hF rfl (wn rfl) rfl rfl (fun w => R.extract (hF.ev rfl) rfl) fun a hF => ?_
    refine dw rfl (wn rfl) (O.storeW sz29 (hF.ev rfl) (hF.ev rfl) rfl rfl (by simp [Value.oneCell']) hS (.t .h) rfl fun w hS => ?_)
    refine dq hF rfl (wn rfl) rfl rfl (fun w => R.assign (hF.ev rfl)) fun a hF => ?_
    refine d0 ?_
    refine then_n (hK2 _ _ ?_)
    refine wp_seq_k fun K8 hK8 => ?_
    refine wp_seq_k fun K9 hK9 => ?_
    refine wp_region_lit ?_
    refine sv' hF (wn rfl) rfl rfl (R.move (hF.ev rfl)) fun a hF => ?_
    refine sv' hF (wn rfl) rfl rfl (R.neq (hF.ev rfl) (hF.ev rfl)) fun a hF => ?_
    refine s0 ?_
    refine then_n (hK9 _ _ ?_)
    refine cD hF rfl (fun c1 => ?_) (fun c1 => ?_)
    ·
      have c1 : ¬ (V.lock + x < 115792089237316195423570985008687907853269984665640564039457584007913129639936) := fun h => by rw [if_pos h] at c1; exact c1 rfl
      refine wp_seq_k fun K10 hK10 => ?_
      refine wp_region_lit ?_
      refine sv' hF (wn rfl) rfl rfl (R.assign (hF.ev rfl)) fun a hF => ?_
      refine s0 ?_
      refine then_n (hK10 _ _ ?_)
      refine wp_ret (then_r (hR _ _ _ _ _ hF (run_results Try.results33 (.t hF rfl (.nil))) ?_))
      have e : V.lockIt x = (V, 145) := by simp [Vau.lockIt, c1]
      rw [e]
      obtain ⟨s', h1, h2⟩ := VaultS.close (hS.sel [3, 4, 5] rfl rfl) hT hPd hL hH
      exact ⟨_, s', rfl, ⟨rfl, h1⟩, h2⟩
    ·
      have c1 : V.lock + x < 115792089237316195423570985008687907853269984665640564039457584007913129639936 := by by_cases h : V.lock + x < 115792089237316195423570985008687907853269984665640564039457584007913129639936; exact h; rw [if_neg h] at c1; exact absurd c1 (by decide)
      rw [if_pos c1] at hS
      refine wp_skip ?_
      refine then_n (hK8 _ _ ?_)
      refine wp_seq_k fun K11 hK11 => ?_
      refine wp_region_lit ?_
      refine sv' hF (wn rfl) rfl rfl (R.move (hF.ev rfl)) fun a hF => ?_
      refine sv' hF (wn rfl) rfl rfl (R.loadW agg29 (hF.ev rfl) hS (.t .h) sz29 rfl) fun a hF => ?_
      refine sv' hF (wn rfl) rfl rfl (R.nilCheck (hF.ev rfl)) fun a hF => ?_
      refine sv' hF (wn rfl) rfl rfl (R.fieldAddr (k := 2) Try.underlying100 rfl nz29 (hF.ev rfl) rfl) fun a hF => ?_
      refine so (wn rfl) (O.storeA sz29 (hF.ev rfl) (hF.ev rfl) rfl rfl (by simp [Value.oneCell']) hS (.t (.t (.t .h))) (show spl _ _ _ = .map (some bt) :: .map r :: wc (V.lock + x) from rfl) (by first | decide | simp) fun w hS => ?_)
      refine s0 ?_
      refine then_n (hK11 _ _ ?_)
      refine wp_seq_k fun K12 hK12 => ?_
      refine wp_region_lit ?_
      refine sv' hF (wn rfl) rfl rfl (R.assign (hF.ev rfl)) fun a hF => ?_
      refine s0 ?_
      refine then_n (hK12 _ _ ?_)
      refine wp_ret (hR _ _ _ _ _ hF (run_results Try.results33 (.t hF rfl (.nil))) ?_)
      have e : V.lockIt x = ({ V with lock := V.lock + x }, 0) := by simp [Vau.lockIt, c1]
      rw [e]
      obtain ⟨s', h1, h2⟩ := VaultS.close (V := { V with lock := V.lock + x }) (hS.sel [3, 4, 5] rfl rfl) hT hPd c1 (hH)
      exact ⟨_, s', rfl, ⟨rfl, h1⟩, h2⟩

theorem free_calls (bv : Nat) (V : Vau) (x : Nat) (s : Seg) (w0 : World) (hV : VaultS bv V s) (ho : Own w0 s) (hx : x < 115792089237316195423570985008687907853269984665640564039457584007913129639936) : Ret Try.prog 34 [.pointer (some ⟨bv, 0, none⟩), wv x] w0 (s.map (·.1)) (fun v s' => v = .int .i64 (V.free x).2 ∧ VaultS bv (V.free x).1 s') := by
  refine fn_start Try.func34 rfl Try.ntmps34 rfl [(0, .pointer (some ⟨bv, 0, none⟩)), (1, wv x)] ⟨rfl, rfl, trivial⟩ ?_
  intro Q a hP hF hR hN
  have hS := St.enter ho
  refine wp_seq_k fun K1 hK1 => ?_
  refine wp_region_lit ?_
  refine so (wn rfl) (O.box rfl rfl hF (hF.ev rfl) rfl hS fun b3 a w hF hS => ?_)
  refine sv' hF (wn rfl) rfl rfl (R.assign (hF.ev rfl)) fun a hF => ?_
  refine s0 ?_
  refine then_n (hK1 _ _ ?_)
  refine wp_seq_k fun K2 hK2 => ?_
  obtain ⟨bt, es, c, r, sp, rfl, hT, hPd, hL, hH⟩ := hV
  have hS := hS.openV (.t .h)
  refine wp_draw2S hS [(0, 0), (1, 0), (2, 0), (3, 1), (4, 1)] [[(5, 2), (6, 0), (7, 0), (8, 0), (9, 2), (10, 3), (11, 0)], [(9, 2), (5, 2), (6, 0), (7, 0), (8, 0), (10, 3), (11, 0)]] mix (by kernel_rfl) (hP.then) fun w hS => ?_
  have hD := hS
  refine dq hF rfl (wn rfl) rfl rfl (fun w => R.move (hF.ev rfl)) fun a hF => ?_
  refine dq hF rfl (wn rfl) rfl rfl (fun w => R.nilCheck (hF.ev rfl)) fun a hF => ?_
  refine dq hF rfl (wn rfl) rfl rfl (fun w => R.fieldAddr (k := 2) Try.underlying100 rfl nz29 (hF.ev rfl) rfl) fun a hF => ?_
  refine dr hF rfl (wn rfl) rfl rfl hD (fun w hD => R.loadA (cs := wc V.lock) agg29 (hF.ev rfl) hD (.t .h) sz29 rfl (getAt rfl)) fun a hF => ?_
  refine dr hF rfl (wn rfl) rfl rfl hD (fun w hD => R.loadW agg29 (hF.ev rfl) hD .h sz29 rfl) fun a hF => ?_
  refine d0 ?_
  refine alts2 ?_ ?_
  ·
    refine dl rfl (wn rfl) (O.call rfl rfl hF ent42 (hF.evs rfl) hS (sub_calls V.lock x w hL hx) fun v s13 a w hR hF hS => ⟨fun hD => hS.tail, ?_⟩)
    obtain ⟨rfl, rfl⟩ := hR
    have hD := hS.tail
    refine dq hF rfl (wn rfl) rfl rfl (fun w => R.move (hF.ev rfl)) fun a hF => ?_
    refine dq hF rfl (wn rfl) rfl rfl (fun w => R.extract (hF.ev rfl) rfl) fun a hF => ?_
    refine dq hF rfl (wn rfl) rfl rfl (fun w => R.extract (hF.ev rfl) rfl) fun a hF => ?_
    refine dl rfl (wn rfl) (O.alloc rfl rfl hF ze29 rfl hS fun b5 a w hF hS => ⟨fun hD => hS.tail.tail, ?_⟩)
    have hD := hS.tail.tail
    refine dw rfl (wn rfl) (O.storeW sz29 (hF.ev rfl) (hF.ev rfl) rfl rfl (by simp [Value.oneCell']) hS .h rfl fun w hS => ?_)
    refine dq hF rfl (wn rfl) rfl rfl (fun w => R.assign (hF.ev rfl)) fun a hF => ?_
    refine d0 ?_
    refine then_n (hK2 _ _ ?_)
    refine wp_seq_k fun K3 hK3 => ?_
    refine wp_seq_k fun K4 hK4 => ?_
    refine wp_region_lit ?_
    refine sv' hF (wn rfl) rfl rfl (R.move (hF.ev rfl)) fun a hF => ?_
    refine sv' hF (wn rfl) rfl rfl (R.neq (hF.ev rfl) (hF.ev rfl)) fun a hF => ?_
    refine s0 ?_
    refine then_n (hK4 _ _ ?_)
    refine cD hF rfl (fun c1 => ?_) (fun c1 => ?_)
    ·
      have c1 : ¬ (x ≤ V.lock) := fun h => by rw [if_pos h] at c1; exact c1 rfl
      refine wp_seq_k fun K5 hK5 => ?_
      refine wp_region_lit ?_
      refine sv' hF (wn rfl) rfl rfl (R.assign (hF.ev rfl)) fun a hF => ?_
      refine s0 ?_
      refine then_n (hK5 _ _ ?_)
      refine wp_ret (then_r (hR _ _ _ _ _ hF (run_results Try.results34 (.t hF rfl (.nil))) ?_))
      have e : V.free x = (V, 149) := by simp [Vau.free, c1]
      rw [e]
      obtain ⟨s', h1, h2⟩ := VaultS.close (hS.sel [3, 4, 5] rfl rfl) hT hPd hL hH
      exact ⟨_, s', rfl, ⟨rfl, h1⟩, h2⟩
    ·
      have c1 : x ≤ V.lock := by by_cases h : x ≤ V.lock; exact h; rw [if_neg h] at c1; exact absurd c1 (by decide)
      rw [if_pos c1] at hS
      refine wp_skip ?_
      refine then_n (hK3 _ _ ?_)
      refine wp_seq_k fun K6 hK6 => ?_
      refine wp_region_lit ?_
      refine sv' hF (wn rfl) rfl rfl (R.move (hF.ev rfl)) fun a hF => ?_
      refine sv' hF (wn rfl) rfl rfl (R.loadW agg29 (hF.ev rfl) hS .h sz29 rfl) fun a hF => ?_
      refine sv' hF (wn rfl) rfl rfl (R.nilCheck (hF.ev rfl)) fun a hF => ?_
      refine sv' hF (wn rfl) rfl rfl (R.fieldAddr (k := 2) Try.underlying100 rfl nz29 (hF.ev rfl) rfl) fun a hF => ?_
      refine so (wn rfl) (O.storeA sz29 (hF.ev rfl) (hF.ev rfl) rfl rfl (by simp [Value.oneCell']) hS (.t (.t (.t .h))) (show spl _ _ _ = .map (some bt) :: .map r :: wc (V.lock - x) from rfl) (by first | decide | simp) fun w hS => ?_)
      refine s0 ?_
      refine then_n (hK6 _ _ ?_)
      refine wp_seq_k fun K7 hK7 => ?_
      refine wp_region_lit ?_
      refine sv' hF (wn rfl) rfl rfl (R.assign (hF.ev rfl)) fun a hF => ?_
      refine s0 ?_
      refine then_n (hK7 _ _ ?_)
      refine wp_ret (hR _ _ _ _ _ hF (run_results Try.results34 (.t hF rfl (.nil))) ?_)
      have e : V.free x = ({ V with lock := V.lock - x }, 0) := by simp [Vau.free, c1]
      rw [e]
      obtain ⟨s', h1, h2⟩ := VaultS.close (V := { V with lock := V.lock - x }) (hS.sel [3, 4, 5] rfl rfl) hT hPd (by simp only; omega) (hH)
      exact ⟨_, s', rfl, ⟨rfl, h1⟩, h2⟩
  ·
    refine dl rfl (wn rfl) (O.alloc rfl rfl hF ze29 rfl hS fun b5 a w hF hS => ⟨fun hD => hS.tail, ?_⟩)
    have hD := hS.tail
    refine dl rfl (wn rfl) (O.call rfl rfl hF ent42 (hF.evs rfl) hS (sub_calls V.lock x w hL hx) fun v s13 a w hR hF hS => ⟨fun hD => hS.tail.tail, ?_⟩)
    obtain ⟨rfl, rfl⟩ := hR
    have hD := hS.tail.tail
    refine dq hF rfl (wn rfl) rfl rfl (fun w => R.move (hF.ev rfl)) fun a hF => ?_
    refine dq hF rfl (wn rfl) rfl rfl (fun w => R.extract (hF.ev rfl) rfl) fun a hF => ?_
    refine dq hF rfl (wn rfl) rfl rfl (fun w => R.extract (hF.ev rfl) rfl) fun a hF => ?_
    refine dw rfl (wn rfl) (O.storeW sz29 (hF.ev rfl) (hF.ev rfl) rfl rfl (by simp [Value.oneCell']) hS (.t .h) rfl fun w hS => ?_)
    refine dq hF rfl (wn rfl) rfl rfl (fun w => R.assign (hF.ev rfl)) fun a hF => ?_
    refine d0 ?_
    refine then_n (hK2 _ _ ?_)
    refine wp_seq_k fun K8 hK8 => ?_
    refine wp_seq_k fun K9 hK9 => ?_
    refine wp_region_lit ?_
    refine sv' hF (wn rfl) rfl rfl (R.move (hF.ev rfl)) fun a hF => ?_
    refine sv' hF (wn rfl) rfl rfl (R.neq (hF.ev rfl) (hF.ev rfl)) fun a hF => ?_
    refine s0 ?_
    refine then_n (hK9 _ _ ?_)
    refine cD hF rfl (fun c1 => ?_) (fun c1 => ?_)
    ·
      have c1 : ¬ (x ≤ V.lock) := fun h => by rw [if_pos h] at c1; exact c1 rfl
      refine wp_seq_k fun K10 hK10 => ?_
      refine wp_region_lit ?_
      refine sv' hF (wn rfl) rfl rfl (R.assign (hF.ev rfl)) fun a hF => ?_
      refine s0 ?_
      refine then_n (hK10 _ _ ?_)
      refine wp_ret (then_r (hR _ _ _ _ _ hF (run_results Try.results34 (.t hF rfl (.nil))) ?_))
      have e : V.free x = (V, 149) := by simp [Vau.free, c1]
      rw [e]
      obtain ⟨s', h1, h2⟩ := VaultS.close (hS.sel [3, 4, 5] rfl rfl) hT hPd hL hH
      exact ⟨_, s', rfl, ⟨rfl, h1⟩, h2⟩
    ·
      have c1 : x ≤ V.lock := by by_cases h : x ≤ V.lock; exact h; rw [if_neg h] at c1; exact absurd c1 (by decide)
      rw [if_pos c1] at hS
      refine wp_skip ?_
      refine then_n (hK8 _ _ ?_)
      refine wp_seq_k fun K11 hK11 => ?_
      refine wp_region_lit ?_
      refine sv' hF (wn rfl) rfl rfl (R.move (hF.ev rfl)) fun a hF => ?_
      refine sv' hF (wn rfl) rfl rfl (R.loadW agg29 (hF.ev rfl) hS (.t .h) sz29 rfl) fun a hF => ?_
      refine sv' hF (wn rfl) rfl rfl (R.nilCheck (hF.ev rfl)) fun a hF => ?_
      refine sv' hF (wn rfl) rfl rfl (R.fieldAddr (k := 2) Try.underlying100 rfl nz29 (hF.ev rfl) rfl) fun a hF => ?_
      refine so (wn rfl) (O.storeA sz29 (hF.ev rfl) (hF.ev rfl) rfl rfl (by simp [Value.oneCell']) hS (.t (.t (.t .h))) (show spl _ _ _ = .map (some bt) :: .map r :: wc (V.lock - x) from rfl) (by first | decide | simp) fun w hS => ?_)
      refine s0 ?_
      refine then_n (hK11 _ _ ?_)
      refine wp_seq_k fun K12 hK12 => ?_
      refine wp_region_lit ?_
      refine sv' hF (wn rfl) rfl rfl (R.assign (hF.ev rfl)) fun a hF => ?_
      refine s0 ?_
      refine then_n (hK12 _ _ ?_)
      refine wp_ret (hR _ _ _ _ _ hF (run_results Try.results34 (.t hF rfl (.nil))) ?_)
      have e : V.free x = ({ V with lock := V.lock - x }, 0) := by simp [Vau.free, c1]
      rw [e]
      obtain ⟨s', h1, h2⟩ := VaultS.close (V := { V with lock := V.lock - x }) (hS.sel [3, 4, 5] rfl rfl) hT hPd (by simp only; omega) (hH)
      exact ⟨_, s', rfl, ⟨rfl, h1⟩, h2⟩

theorem locked_calls (bv : Nat) (V : Vau) (s : Seg) (w0 : World) (hV : VaultS bv V s) (ho : Own w0 s) : Ret Try.prog 24 [.pointer (some ⟨bv, 0, none⟩)] w0 (s.map (·.1)) (fun v s' => v = wv V.lock ∧ s' = s) := by
  refine fn_start Try.func24 rfl Try.ntmps24 rfl [(0, .pointer (some ⟨bv, 0, none⟩))] ⟨rfl, trivial⟩ ?_
  intro Q a hP hF hR hN
  have hS := St.enter ho
  refine wp_seq_k fun K1 hK1 => ?_
  refine wp_region_lit ?_
  refine so (wn rfl) (O.alloc rfl rfl hF ze29 rfl hS fun b2 a w hF hS => ?_)
  refine s0 ?_
  refine then_n (hK1 _ _ ?_)
  refine wp_seq_k fun K2 hK2 => ?_
  obtain ⟨bt, es, c, r, sp, rfl, hT, hPd, hL, hH⟩ := hV
  have hS := hS.openV (.t .h)
  refine wp_region_lit ?_
  refine sv' hF (wn rfl) rfl rfl (R.move (hF.ev rfl)) fun a hF => ?_
  refine sv' hF (wn rfl) rfl rfl (R.nilCheck (hF.ev rfl)) fun a hF => ?_
  refine sv' hF (wn rfl) rfl rfl (R.fieldAddr (k := 2) Try.underlying100 rfl nz29 (hF.ev rfl) rfl) fun a hF => ?_
  refine sv' hF (wn rfl) rfl rfl (R.loadA (cs := wc V.lock) agg29 (hF.ev rfl) hS (.t .h) sz29 rfl (getAt rfl)) fun a hF => ?_
  refine so (wn rfl) (O.storeW sz29 (hF.ev rfl) (hF.ev rfl) rfl rfl (by simp [Value.oneCell']) hS .h rfl fun w hS => ?_)
  refine s0 ?_
  refine then_n (hK2 _ _ ?_)
  refine wp_ret (hR _ _ _ _ _ hF (run_results Try.results24 (.cw hF rfl agg29 hS .h sz29 rfl (.nil))) ?_)
  exact ⟨_, _, rfl, ⟨rfl, rfl⟩, (hS.sel [1, 2, 3] rfl rfl).flat (by simp [selS])⟩

theorem isListed_calls (bv : Nat) (V : Vau) (n : Int) (s : Seg) (w0 : World) (hV : VaultS bv V s) (ho : Own w0 s) : Ret Try.prog 72 [.pointer (some ⟨bv, 0, none⟩), .int .i64 n] w0 (s.map (·.1)) (fun v s' => v = .tuple [.bool (V.tok n).isSome, .bool (tS (V.tok n))].toArray ∧ s' = s) := by
  refine fn_start Try.func72 rfl Try.ntmps72 rfl [(0, .pointer (some ⟨bv, 0, none⟩)), (1, .int .i64 n)] ⟨rfl, rfl, trivial⟩ ?_
  intro Q a hP hF hR hN
  have hS := St.enter ho
  refine wp_seq_k fun K1 hK1 => ?_
  refine wp_region_lit ?_
  refine sv' hF (wn rfl) rfl rfl (R.assign (hF.ev rfl)) fun a hF => ?_
  refine sv' hF (wn rfl) rfl rfl (R.assign (hF.ev rfl)) fun a hF => ?_
  refine s0 ?_
  refine then_n (hK1 _ _ ?_)
  refine wp_seq_k fun K2 hK2 => ?_
  obtain ⟨bt, es, c, r, sp, rfl, hT, hPd, hL, hH⟩ := hV
  have hS := hS.openV .h
  refine wp_region_lit ?_
  refine sv' hF (wn rfl) rfl rfl (R.move (hF.ev rfl)) fun a hF => ?_
  refine sv' hF (wn rfl) rfl rfl (R.nilCheck (hF.ev rfl)) fun a hF => ?_
  refine sv' hF (wn rfl) rfl rfl (R.fieldAddr (k := 0) Try.underlying100 rfl nz95 (hF.ev rfl) rfl) fun a hF => ?_
  refine sv' hF (wn rfl) rfl rfl (R.load one95 (hF.ev rfl) hS .h (rfl)) fun a hF => ?_
  refine sv' hF (wn rfl) rfl rfl (R.move (hF.ev rfl)) fun a hF => ?_
  refine sv' hF (wn rfl) rfl rfl (R.tokOk (MapIn.of hS (.t .h) hT) (hF.ev rfl) (hF.ev rfl)) fun a hF => ?_
  refine sv' hF (wn rfl) rfl rfl (R.move (hF.ev rfl)) fun a hF => ?_
  refine sv' hF (wn rfl) rfl rfl (R.extract (hF.ev rfl) rfl) fun a hF => ?_
  refine sv' hF (wn rfl) rfl rfl (R.extract (hF.ev rfl) rfl) fun a hF => ?_
  refine so (wn rfl) (O.alloc rfl rfl hF ze105 rfl hS fun b6 a w hF hS => ?_)
  refine so (wn rfl) (O.storeW sz105 (hF.ev rfl) (hF.ev rfl) rfl rfl (by simp [Value.oneCell']) hS .h rfl fun w hS => ?_)
  refine sv' hF (wn rfl) rfl rfl (R.assign (hF.ev rfl)) fun a hF => ?_
  refine s0 ?_
  refine then_n (hK2 _ _ ?_)
  refine wp_seq_k fun K3 hK3 => ?_
  refine wp_drawS hS [(0, 0), (1, 0), (2, 1), (3, 0), (4, 0)] mix (by kernel_rfl) (hP.then) fun w hS => ?_
  have hD := hS
  refine dq hF rfl (wn rfl) rfl rfl (fun w => R.move (hF.ev rfl)) fun a hF => ?_
  refine dq hF rfl (wn rfl) rfl rfl (fun w => R.fieldAddr (k := 0) Try.underlying105 rfl nz4 (hF.ev rfl) rfl) fun a hF => ?_
  refine dr hF rfl (wn rfl) rfl rfl hD (fun w hD => R.load one4 (hF.ev rfl) hD .h (rfl)) fun a hF => ?_
  refine dq hF rfl (wn rfl) rfl rfl (fun w => R.assign (hF.ev rfl)) fun a hF => ?_
  refine dq hF rfl (wn rfl) rfl rfl (fun w => R.assign (hF.ev rfl)) fun a hF => ?_
  refine d0 ?_
  refine then_n (hK3 _ _ ?_)
  refine wp_ret (hR _ _ _ _ _ hF (run_results Try.results72 (.t hF rfl (.t hF rfl (.nil)))) ?_)
  exact ⟨_, _, rfl, ⟨rfl, rfl⟩, (hS.sel [1, 2, 3] rfl rfl).flat (by simp [selS])⟩

theorem held_calls (bv : Nat) (V : Vau) (n : Int) (s : Seg) (w0 : World) (hV : VaultS bv V s) (ho : Own w0 s) : Ret Try.prog 25 [.pointer (some ⟨bv, 0, none⟩), .int .i64 n] w0 (s.map (·.1)) (fun v s' => v = wv (tH (V.tok n)) ∧ s' = s) := by
  refine fn_start Try.func25 rfl Try.ntmps25 rfl [(0, .pointer (some ⟨bv, 0, none⟩)), (1, .int .i64 n)] ⟨rfl, rfl, trivial⟩ ?_
  intro Q a hP hF hR hN
  have hS := St.enter ho
  refine wp_seq_k fun K1 hK1 => ?_
  refine wp_region_lit ?_
  refine so (wn rfl) (O.alloc rfl rfl hF ze29 rfl hS fun b4 a w hF hS => ?_)
  refine s0 ?_
  refine then_n (hK1 _ _ ?_)
  refine wp_seq_k fun K2 hK2 => ?_
  obtain ⟨bt, es, c, r, sp, rfl, hT, hPd, hL, hH⟩ := hV
  have hS := hS.openV (.t .h)
  refine wp_region_lit ?_
  refine sv' hF (wn rfl) rfl rfl (R.move (hF.ev rfl)) fun a hF => ?_
  refine sv' hF (wn rfl) rfl rfl (R.nilCheck (hF.ev rfl)) fun a hF => ?_
  refine sv' hF (wn rfl) rfl rfl (R.fieldAddr (k := 0) Try.underlying100 rfl nz95 (hF.ev rfl) rfl) fun a hF => ?_
  refine sv' hF (wn rfl) rfl rfl (R.load one95 (hF.ev rfl) hS (.t .h) (rfl)) fun a hF => ?_
  refine sv' hF (wn rfl) rfl rfl (R.move (hF.ev rfl)) fun a hF => ?_
  refine sv' hF (wn rfl) rfl rfl (R.tok1 (MapIn.of hS (.t (.t .h)) hT) (hF.ev rfl) (hF.ev rfl)) fun a hF => ?_
  refine sv' hF (wn rfl) rfl rfl (R.fieldAgg Try.underlying105 rfl agg29 sz29 (hF.ev rfl) (show wv (tH (V.tok n)) = _ from rfl)) fun a hF => ?_
  refine so (wn rfl) (O.storeW sz29 (hF.ev rfl) (hF.ev rfl) rfl rfl (by simp [Value.oneCell']) hS .h rfl fun w hS => ?_)
  refine s0 ?_
  refine then_n (hK2 _ _ ?_)
  refine wp_ret (hR _ _ _ _ _ hF (run_results Try.results25 (.cw hF rfl agg29 hS .h sz29 rfl (.nil))) ?_)
  exact ⟨_, _, rfl, ⟨rfl, rfl⟩, (hS.sel [1, 2, 3] rfl rfl).flat (by simp [selS])⟩

theorem paid_calls (bv : Nat) (V : Vau) (n : Int) (s : Seg) (w0 : World) (hV : VaultS bv V s) (ho : Own w0 s) : Ret Try.prog 27 [.pointer (some ⟨bv, 0, none⟩), .int .i64 n] w0 (s.map (·.1)) (fun v s' => v = .bool (V.paid n) ∧ s' = s) := by
  refine fn_start Try.func27 rfl Try.ntmps27 rfl [(0, .pointer (some ⟨bv, 0, none⟩)), (1, .int .i64 n)] ⟨rfl, rfl, trivial⟩ ?_
  intro Q a hP hF hR hN
  have hS := St.enter ho
  refine wp_seq_k fun K1 hK1 => ?_
  refine wp_region_lit ?_
  refine sv' hF (wn rfl) rfl rfl (R.assign (hF.ev rfl)) fun a hF => ?_
  refine s0 ?_
  refine then_n (hK1 _ _ ?_)
  refine wp_seq_k fun K2 hK2 => ?_
  obtain ⟨bt, es, c, r, sp, rfl, hT, hPd, hL, hH⟩ := hV
  have hS := hS.openV .h
  refine wp_region_lit ?_
  refine sv' hF (wn rfl) rfl rfl (R.move (hF.ev rfl)) fun a hF => ?_
  refine sv' hF (wn rfl) rfl rfl (R.nilCheck (hF.ev rfl)) fun a hF => ?_
  refine sv' hF (wn rfl) rfl rfl (R.fieldAddr (k := 1) Try.underlying100 rfl nz98 (hF.ev rfl) rfl) fun a hF => ?_
  refine sv' hF (wn rfl) rfl rfl (R.loadA (cs := [.map r]) agg98 (hF.ev rfl) hS .h sz98 rfl (getAt rfl)) fun a hF => ?_
  refine sv' hF (wn rfl) rfl rfl (R.move (hF.ev rfl)) fun a hF => ?_
  refine so (wn rfl) (O.call rfl rfl hF ent77 (hF.evs rfl) hS (has_calls (.map r) V.paid n _ (hPd.mapIn hS (.t (.t .h)))) fun v s10 a w hR hF hS => ?_)
  obtain ⟨rfl, rfl⟩ := hR
  refine sv' hF (wn rfl) rfl rfl (R.assign (hF.ev rfl)) fun a hF => ?_
  refine s0 ?_
  refine then_n (hK2 _ _ ?_)
  refine wp_ret (hR _ _ _ _ _ hF (run_results Try.results27 (.t hF rfl (.nil))) ?_)
  exact ⟨_, _, rfl, ⟨rfl, rfl⟩, (hS.sel [1, 2, 3] rfl rfl).flat (by simp [selS])⟩

theorem new_calls  (w0 : World) : Ret Try.prog 19 [] w0 [] (fun v s => ∃ bv, v = .pointer (some ⟨bv, 0, none⟩) ∧ VaultS bv Vau.new s) := by
  refine fn_start Try.func19 rfl Try.ntmps19 rfl [] trivial ?_
  intro Q a hP hF hR hN
  have hS := St.start w0
  refine wp_seq_k fun K1 hK1 => ?_
  refine wp_region_lit ?_
  refine sv' hF (wn rfl) rfl rfl (R.assign (hF.ev rfl)) fun a hF => ?_
  refine s0 ?_
  refine then_n (hK1 _ _ ?_)
  refine wp_seq_k fun K2 hK2 => ?_
  refine wp_region_lit ?_
  refine so (wn rfl) (O.makeMap rfl rfl hF hS fun b1 a w hF hS => ?_)
  refine sv' hF (wn rfl) rfl rfl (R.buildStr (l := [_, _, _, _, _, _]) Try.underlying100 ze100 pl100 (hF.evp rfl) rfl) fun a hF => ?_
  refine so (wn rfl) (O.box rfl rfl hF (hF.ev rfl) rfl hS fun b3 a w hF hS => ?_)
  refine sv' hF (wn rfl) rfl rfl (R.assign (hF.ev rfl)) fun a hF => ?_
  refine s0 ?_
  refine then_n (hK2 _ _ ?_)
  refine wp_ret (hR _ _ _ _ _ hF (run_results Try.results19 (.t hF rfl (.nil))) ?_)
  exact ⟨_, [(b3, _), (b1, _)], rfl, ⟨b3, rfl, b1, #[], 0, none, [], by rw [show Vau.new.lock = 0 from rfl, wc_0], by rw [show tokF Vau.new.tok = fun _ => none from rfl]; exact MapR.nil, .inl ⟨rfl, rfl, fun _ => rfl⟩, by decide, fun _ => (by decide : (0 : Nat) < 115792089237316195423570985008687907853269984665640564039457584007913129639936)⟩, (hS.sel [0, 1] rfl rfl).flat (by simp [selS])⟩

theorem addIndex_calls (bv bt k : Nat) (r : Option Nat) (sp : Seg) (f : Int → Bool) (n : Int) (w0 : World) (hPd : PaidS r sp f) (ho : Own w0 ((bv, Cel (.map (some bt) :: .map r :: wc k) 100) :: sp)) : Ret Try.prog 80 [.pointer (some ⟨bv, 1, none⟩), .int .i64 n] w0 ((((bv, Cel (.map (some bt) :: .map r :: wc k) 100) :: sp).map (·.1))) (fun _ s' => ∃ r' sp', s' = (bv, Cel (.map (some bt) :: .map r' :: wc k) 100) :: sp' ∧ PaidS r' sp' (updF f n true)) := by
  refine fn_start Try.func80 rfl Try.ntmps80 rfl [(0, .pointer (some ⟨bv, 1, none⟩)), (1, .int .i64 n)] ⟨rfl, rfl, trivial⟩ ?_
  intro Q a hP hF hR hN
  have hS := St.enter ho
  refine wp_seq_k fun K1 hK1 => ?_
  refine wp_seq_k fun K2 hK2 => ?_
  have hS := hS.flat (bs' := [[(bv, Cel (.map (some bt) :: .map r :: wc k) 100)], sp]) (by simp)
  refine wp_region_lit ?_
  refine sv' hF (wn rfl) rfl rfl (R.move (hF.ev rfl)) fun a hF => ?_
  refine sv' hF (wn rfl) rfl rfl (R.nilCheck (hF.ev rfl)) fun a hF => ?_
  refine sv' hF (wn rfl) rfl rfl (R.fieldAddr (k := 0) Try.underlying98 rfl nz96 (hF.ev rfl) rfl) fun a hF => ?_
  refine sv' hF (wn rfl) rfl rfl (R.load one96 (hF.ev rfl) hS .h (rfl)) fun a hF => ?_
  refine sv' hF (wn rfl) rfl rfl (R.nilM (hF.ev rfl) (hF.ev rfl) Try.underlying96) fun a hF => ?_
  refine s0 ?_
  refine then_n (hK2 _ _ ?_)
  refine cD hF rfl (fun c1 => ?_) (fun c1 => ?_)
  ·
    have hP0 := hPd.resolve_right (by rintro ⟨b, es, c, h, _⟩; rw [c1] at h; exact absurd h (by simp))
    obtain ⟨_, rfl, hf⟩ := hP0
    have e : paidF f = fun _ => none := by funext m; simp [paidF, hf m]
    have hR0 : MapR .i64 #[] (paidF f) := e ▸ MapR.nil
    refine wp_region_lit ?_
    refine sv' hF (wn rfl) rfl rfl (R.move (hF.ev rfl)) fun a hF => ?_
    refine so (wn rfl) (O.makeMap rfl rfl hF hS fun b10 a w hF hS => ?_)
    refine sv' hF (wn rfl) rfl rfl (R.nilCheck (hF.ev rfl)) fun a hF => ?_
    refine sv' hF (wn rfl) rfl rfl (R.fieldAddr (k := 0) Try.underlying98 rfl nz96 (hF.ev rfl) rfl) fun a hF => ?_
    refine so (wn rfl) (O.store sz96 (hF.ev rfl) (hF.ev rfl) rfl rfl hS (.t .h) (rfl) (by first | decide | omega | simp) fun w hS => ?_)
    refine s0 ?_
    refine then_n (hK1 _ _ ?_)
    refine wp_region_lit ?_
    refine sv' hF (wn rfl) rfl rfl (R.move (hF.ev rfl)) fun a hF => ?_
    refine sv' hF (wn rfl) rfl rfl (R.nilCheck (hF.ev rfl)) fun a hF => ?_
    refine sv' hF (wn rfl) rfl rfl (R.fieldAddr (k := 0) Try.underlying98 rfl nz96 (hF.ev rfl) rfl) fun a hF => ?_
    refine sv' hF (wn rfl) rfl rfl (R.load one96 (hF.ev rfl) hS (.t .h) (rfl)) fun a hF => ?_
    refine sv' hF (wn rfl) rfl rfl (R.move (hF.ev rfl)) fun a hF => ?_
    refine sv' hF (wn rfl) rfl rfl (R.buildStr (l := []) Try.underlying118 ze118 pl118 (hF.evp rfl) rfl) fun a hF => ?_
    refine so (wn rfl) (O.mapUpdate Try.underlying96 Try.underlying107 (hF.ev rfl) (hF.ev rfl) (hF.ev rfl) rfl (hR0) hS (fun _ => .h) fun es' c' w hM hS => ?_)
    refine s0 ?_
    refine (hN _ _ _ _ _ hF (run_results Try.results80 (.nil)) ?_)
    exact ⟨_, (bv, _) :: [(b10, .map es' c')], rfl, ⟨_, _, rfl, .inr ⟨_, _, _, rfl, rfl, paidF_upd f n ▸ hM⟩⟩, (hS.sel [1, 0] rfl rfl).flat (by simp [selS])⟩
  ·
    obtain ⟨b, es, c, rfl, rfl, hR0⟩ : ∃ b es c, r = some b ∧ sp = [(b, .map es c)] ∧ MapR .i64 es (paidF f) := hPd.resolve_left fun h => c1 h.1
    refine wp_skip ?_
    refine then_n (hK1 _ _ ?_)
    refine wp_region_lit ?_
    refine sv' hF (wn rfl) rfl rfl (R.move (hF.ev rfl)) fun a hF => ?_
    refine sv' hF (wn rfl) rfl rfl (R.nilCheck (hF.ev rfl)) fun a hF => ?_
    refine sv' hF (wn rfl) rfl rfl (R.fieldAddr (k := 0) Try.underlying98 rfl nz96 (hF.ev rfl) rfl) fun a hF => ?_
    refine sv' hF (wn rfl) rfl rfl (R.load one96 (hF.ev rfl) hS .h (rfl)) fun a hF => ?_
    refine sv' hF (wn rfl) rfl rfl (R.move (hF.ev rfl)) fun a hF => ?_
    refine sv' hF (wn rfl) rfl rfl (R.buildStr (l := []) Try.underlying118 ze118 pl118 (hF.evp rfl) rfl) fun a hF => ?_
    refine so (wn rfl) (O.mapUpdate Try.underlying96 Try.underlying107 (hF.ev rfl) (hF.ev rfl) (hF.ev rfl) rfl (hR0) hS (fun _ => (.t .h)) fun es' c' w hM hS => ?_)
    refine s0 ?_
    refine (hN _ _ _ _ _ hF (run_results Try.results80 (.nil)) ?_)
    exact ⟨_, (bv, _) :: [(b, .map es' c')], rfl, ⟨_, _, rfl, .inr ⟨_, _, _, rfl, rfl, paidF_upd f n ▸ hM⟩⟩, (hS.sel [0, 1] rfl rfl).flat (by simp [selS])⟩

theorem pay_calls (bv : Nat) (V : Vau) (i n : Int) (x : Nat) (s : Seg) (w0 : World) (hV : VaultS bv V s) (ho : Own w0 s) (hx : x < 115792089237316195423570985008687907853269984665640564039457584007913129639936) : Ret Try.prog 30 [.pointer (some ⟨bv, 0, none⟩), .int .i64 i, .int .i64 n, wv x] w0 (s.map (·.1)) (fun v s' => v = .int .i64 (V.pay i n x).2 ∧ VaultS bv (V.pay i n x).1 s') := by
  refine fn_start Try.func30 rfl Try.ntmps30 rfl [(0, .pointer (some ⟨bv, 0, none⟩)), (1, .int .i64 i), (2, .int .i64 n), (3, wv x)] ⟨rfl, rfl, rfl, rfl, trivial⟩ ?_
  intro Q a hP hF hR hN
  have hS := St.enter ho
  refine wp_seq_k fun K1 hK1 => ?_
  refine wp_region_lit ?_
  refine so (wn rfl) (O.box rfl rfl hF (hF.ev rfl) rfl hS fun b7 a w hF hS => ?_)
  refine sv' hF (wn rfl) rfl rfl (R.assign (hF.ev rfl)) fun a hF => ?_
  refine s0 ?_
  refine then_n (hK1 _ _ ?_)
  refine wp_seq_k fun K2 hK2 => ?_
  refine wp_seq_k fun K3 hK3 => ?_
  refine wp_region_lit ?_
  refine sv' hF (wn rfl) rfl rfl (R.move (hF.ev rfl)) fun a hF => ?_
  refine sv' hF (wn rfl) rfl rfl (R.lss (hF.ev rfl) (hF.ev rfl)) fun a hF => ?_
  refine sv' hF (wn rfl) rfl rfl (R.move (hF.ev rfl)) fun a hF => ?_
  refine hF.splitD (t := 13) rfl (fun h13 hF => ?_) (fun h13 hF => ?_)
  ·
    refine sk hF (ws hF rfl rfl rfl rfl) rfl rfl fun a hF => ?_
    refine sk hF (ws hF rfl rfl rfl rfl) rfl rfl fun a hF => ?_
    refine sv' hF (wn rfl) rfl rfl (R.pickT (hF.ev rfl) (hF.ev rfl)) fun a hF => ?_
    refine s0 ?_
    refine then_n (hK3 _ _ ?_)
    refine cT hF rfl ?_
    refine wp_seq_k fun K4 hK4 => ?_
    refine wp_region_lit ?_
    refine sv' hF (wn rfl) rfl rfl (R.assign (hF.ev rfl)) fun a hF => ?_
    refine s0 ?_
    refine then_n (hK4 _ _ ?_)
    refine wp_ret (then_r (hR _ _ _ _ _ hF (run_results Try.results30 (.t hF rfl (.nil))) ?_))
    have e : V.pay i n x = (V, 148) := by unfold Vau.pay; rw [if_pos (by omega)]
    rw [e]
    exact ⟨_, s, rfl, ⟨rfl, hV⟩, hS.one (.t .h)⟩
  ·
    refine sv' hF (wy hF rfl rfl rfl) rfl rfl (R.move (hF.ev rfl)) fun a hF => ?_
    refine sv' hF (wy hF rfl rfl rfl) rfl rfl (R.geq (hF.ev rfl) (hF.ev rfl)) fun a hF => ?_
    refine sv' hF (wn rfl) rfl rfl (R.pickF (hF.ev rfl) (hF.ev rfl)) fun a hF => ?_
    refine s0 ?_
    refine then_n (hK3 _ _ ?_)
    refine cD hF rfl (fun c0 => ?_) (fun c0 => ?_)
    ·
      refine wp_seq_k fun K5 hK5 => ?_
      refine wp_region_lit ?_
      refine sv' hF (wn rfl) rfl rfl (R.assign (hF.ev rfl)) fun a hF => ?_
      refine s0 ?_
      refine then_n (hK5 _ _ ?_)
      refine wp_ret (then_r (hR _ _ _ _ _ hF (run_results Try.results30 (.t hF rfl (.nil))) ?_))
      have e : V.pay i n x = (V, 148) := by unfold Vau.pay; rw [if_pos (by omega)]
      rw [e]
      exact ⟨_, s, rfl, ⟨rfl, hV⟩, hS.one (.t .h)⟩
    ·
      refine wp_skip ?_
      refine then_n (hK2 _ _ ?_)
      refine wp_seq_k fun K6 hK6 => ?_
      refine wp_region_lit ?_
      refine sv' hF (wn rfl) rfl rfl (R.move (hF.ev rfl)) fun a hF => ?_
      refine sv' hF (wn rfl) rfl rfl (R.move (hF.ev rfl)) fun a hF => ?_
      refine so (wn rfl) (O.callK rfl rfl hF ent79 (hF.evs rfl) hS (listed_calls bv V n s _ hV (hS.own1 (.t .h))) (fun _ => (.t .h)) fun v s20 a w hR hF hS => ?_)
      obtain ⟨rfl, he⟩ := hR
      rw [he] at hS
      refine sv' hF (wn rfl) rfl rfl (R.move (hF.ev rfl)) fun a hF => ?_
      refine sv' hF (wn rfl) rfl rfl (R.extract (hF.ev rfl) rfl) fun a hF => ?_
      refine sv' hF (wn rfl) rfl rfl (R.extract (hF.ev rfl) rfl) fun a hF => ?_
      refine so (wn rfl) (O.alloc rfl rfl hF ze105 rfl hS fun b9 a w hF hS => ?_)
      refine so (wn rfl) (O.storeW sz105 (hF.ev rfl) (hF.ev rfl) rfl rfl (by simp [Value.oneCell']) hS .h rfl fun w hS => ?_)
      refine sv' hF (wn rfl) rfl rfl (R.assign (hF.ev rfl)) fun a hF => ?_
      refine s0 ?_
      refine then_n (hK6 _ _ ?_)
      refine wp_seq_k fun K7 hK7 => ?_
      refine wp_block ?_
      refine wp_seq_k fun K8 hK8 => ?_
      refine wp_region_lit ?_
      refine sv' hF (wn rfl) rfl rfl (R.move (hF.ev rfl)) fun a hF => ?_
      refine sv' hF (wn rfl) rfl rfl (R.neq (hF.ev rfl) (hF.ev rfl)) fun a hF => ?_
      refine sv' hF (wn rfl) rfl rfl (R.assign (hF.ev rfl)) fun a hF => ?_
      refine s0 ?_
      refine then_n (hK8 _ _ ?_)
      refine cD hF rfl (fun c2 => ?_) (fun c2 => ?_)
      ·
        refine wp_seq_k fun K9 hK9 => ?_
        refine wp_region_lit ?_
        refine sv' hF (wn rfl) rfl rfl (R.move (hF.ev rfl)) fun a hF => ?_
        refine sv' hF (wn rfl) rfl rfl (R.assign (hF.ev rfl)) fun a hF => ?_
        refine s0 ?_
        refine then_n (hK9 _ _ ?_)
        refine wp_ret (blk_r (then_r (hR _ _ _ _ _ hF (run_results Try.results30 (.t hF rfl (.nil))) ?_)))
        have e : V.pay i n x = (V, (V.err n)) := by unfold Vau.pay; rw [if_neg (by omega), if_pos c2]
        rw [e]
        exact ⟨_, s, rfl, ⟨rfl, hV⟩, hS.one (.t (.t .h))⟩
      ·
        have c2 : V.err n = 0 := by omega
        have l : V.lst n = V.tok n := lst_of c2
        rw [l] at hS
        have it := isSome_of c2
        refine wp_seq_k fun K10 hK10 => ?_
        obtain ⟨bt, es, c, r, sp, rfl, hT, hPd, hL, hH⟩ := hV
        have hS := hS.openV (.t (.t .h))
        refine wp_region_lit ?_
        refine sv' hF (wn rfl) rfl rfl (R.move (hF.ev rfl)) fun a hF => ?_
        refine sv' hF (wn rfl) rfl rfl (R.nilCheck (hF.ev rfl)) fun a hF => ?_
        refine sv' hF (wn rfl) rfl rfl (R.fieldAddr (k := 1) Try.underlying100 rfl nz98 (hF.ev rfl) rfl) fun a hF => ?_
        refine sv' hF (wn rfl) rfl rfl (R.loadA (cs := [.map r]) agg98 (hF.ev rfl) hS (.t (.t .h)) sz98 rfl (getAt rfl)) fun a hF => ?_
        refine sv' hF (wn rfl) rfl rfl (R.move (hF.ev rfl)) fun a hF => ?_
        refine so (wn rfl) (O.call rfl rfl hF ent77 (hF.evs rfl) hS (has_calls (.map r) V.paid i _ (hPd.mapIn hS (.t (.t (.t (.t .h)))))) fun v s33 a w hR hF hS => ?_)
        obtain ⟨rfl, rfl⟩ := hR
        refine sv' hF (wn rfl) rfl rfl (R.assign (hF.ev rfl)) fun a hF => ?_
        refine s0 ?_
        refine then_n (hK10 _ _ ?_)
        refine cS hF rfl (fun c3 => ?_) (fun c3 => ?_)
        ·
          refine wp_seq_k fun K11 hK11 => ?_
          refine wp_region_lit ?_
          refine sv' hF (wn rfl) rfl rfl (R.assign (hF.ev rfl)) fun a hF => ?_
          refine s0 ?_
          refine then_n (hK11 _ _ ?_)
          refine wp_ret (blk_r (then_r (hR _ _ _ _ _ hF (run_results Try.results30 (.t hF rfl (.nil))) ?_)))
          have e : V.pay i n x = (V, 147) := by unfold Vau.pay; rw [if_neg (by omega), if_neg (by omega), if_pos c3]
          rw [e]
          obtain ⟨s', h1, h2⟩ := VaultS.close (hS.sel [3, 4, 5] rfl rfl) hT hPd hL hH
          exact ⟨_, s', rfl, ⟨rfl, h1⟩, h2⟩
        ·
          refine wp_skip ?_
          refine blk_n ?_
          refine then_n (hK7 _ _ ?_)
          refine wp_seq_k fun K12 hK12 => ?_
          refine wp_seq_k fun K13 hK13 => ?_
          refine wp_region_lit ?_
          refine sv' hF (wn rfl) rfl rfl (R.fieldAddr (k := 1) Try.underlying105 rfl nz29 (hF.ev rfl) rfl) fun a hF => ?_
          refine sv' hF (wn rfl) rfl rfl (R.loadA (cs := wc (tH (V.tok n))) agg29 (hF.ev rfl) hS (.t .h) sz29 rfl (getAt rfl)) fun a hF => ?_
          refine sv' hF (wn rfl) rfl rfl (R.loadW agg29 (hF.ev rfl) hS (.t (.t .h)) sz29 rfl) fun a hF => ?_
          refine so (wn rfl) (O.call rfl rfl hF ent42 (hF.evs rfl) hS (sub_calls (tH (V.tok n)) x w (hH n) hx) fun v s38 a w hR hF hS => ?_)
          obtain ⟨rfl, rfl⟩ := hR
          refine sv' hF (wn rfl) rfl rfl (R.move (hF.ev rfl)) fun a hF => ?_
          refine sv' hF (wn rfl) rfl rfl (R.extract (hF.ev rfl) rfl) fun a hF => ?_
          refine sv' hF (wn rfl) rfl rfl (R.extract (hF.ev rfl) rfl) fun a hF => ?_
          refine sv' hF (wn rfl) rfl rfl (R.fieldAddr (k := 1) Try.underlying105 rfl nz29 (hF.ev rfl) rfl) fun a hF => ?_
          refine so (wn rfl) (O.storeA sz29 (hF.ev rfl) (hF.ev rfl) rfl rfl (by simp [Value.oneCell']) hS (.t (.t .h)) (show spl _ _ _ = tokL (some (tS (V.tok n), (if x ≤ tH (V.tok n) then tH (V.tok n) - x else 0))) from rfl) (by first | decide | simp) fun w hS => ?_)
          refine sv' hF (wn rfl) rfl rfl (R.assign (hF.ev rfl)) fun a hF => ?_
          refine s0 ?_
          refine then_n (hK13 _ _ ?_)
          refine wp_seq_k fun K14 hK14 => ?_
          refine wp_region_lit ?_
          refine sv' hF (wn rfl) rfl rfl (R.move (hF.ev rfl)) fun a hF => ?_
          refine sv' hF (wn rfl) rfl rfl (R.neq (hF.ev rfl) (hF.ev rfl)) fun a hF => ?_
          refine s0 ?_
          refine then_n (hK14 _ _ ?_)
          refine cD hF rfl (fun c4 => ?_) (fun c4 => ?_)
          ·
            have c4 : ¬ (x ≤ tH (V.tok n)) := fun h => by rw [if_pos h] at c4; exact c4 rfl
            refine wp_seq_k fun K15 hK15 => ?_
            refine wp_region_lit ?_
            refine sv' hF (wn rfl) rfl rfl (R.assign (hF.ev rfl)) fun a hF => ?_
            refine s0 ?_
            refine then_n (hK15 _ _ ?_)
            refine wp_ret (then_r (hR _ _ _ _ _ hF (run_results Try.results30 (.t hF rfl (.nil))) ?_))
            have e : V.pay i n x = (V, 146) := by unfold Vau.pay; rw [if_neg (by omega), if_neg (by omega), if_neg (by simp [c3]), if_neg c4]
            rw [e]
            obtain ⟨s', h1, h2⟩ := VaultS.close (hS.sel [4, 5, 6] rfl rfl) hT hPd hL hH
            exact ⟨_, s', rfl, ⟨rfl, h1⟩, h2⟩
          ·
            have c4 : x ≤ tH (V.tok n) := by by_cases h : x ≤ tH (V.tok n); exact h; rw [if_neg h] at c4; exact absurd c4 (by decide)
            rw [if_pos c4] at hS
            refine wp_skip ?_
            refine then_n (hK12 _ _ ?_)
            refine wp_seq_k fun K16 hK16 => ?_
            refine wp_drawS hS [(0, 0), (1, 0), (2, 0), (3, 1), (4, 0), (5, 1), (6, 3)] mix (by kernel_rfl) (hP.then) fun w hS => ?_
            have hD := hS
            refine dq hF rfl (wn rfl) rfl rfl (fun w => R.move (hF.ev rfl)) fun a hF => ?_
            refine dq hF rfl (wn rfl) rfl rfl (fun w => R.nilCheck (hF.ev rfl)) fun a hF => ?_
            refine dq hF rfl (wn rfl) rfl rfl (fun w => R.fieldAddr (k := 0) Try.underlying100 rfl nz95 (hF.ev rfl) rfl) fun a hF => ?_
            refine dr hF rfl (wn rfl) rfl rfl hD (fun w hD => R.load one95 (hF.ev rfl) hD (.t (.t (.t (.t .h)))) (rfl)) fun a hF => ?_
            refine dq hF rfl (wn rfl) rfl rfl (fun w => R.move (hF.ev rfl)) fun a hF => ?_
            refine dr hF rfl (wn rfl) rfl rfl hD (fun w hD => R.loadW agg105 (hF.ev rfl) hD (.t (.t .h)) sz105 rfl) fun a hF => ?_
            refine dw rfl (wn rfl) (O.mapUpdate Try.underlying95 Try.underlying3 (hF.ev rfl) (hF.ev rfl) (hF.ev rfl) rfl (hT) hS (fun _ => (.t (.t (.t (.t (.t .h)))))) fun es' c' w hM hS => ?_)
            rw [tokF_upd] at hM
            refine d0 ?_
            refine then_n (hK16 _ _ ?_)
            refine wp_seq_k fun K17 hK17 => ?_
            have hS := (hS.sel [5, 4, 6] rfl rfl).flat (bs' := [[(bt, .map es' c')], (bv, Cel (.map (some bt) :: .map r :: wc V.lock) 100) :: sp]) (by simp [selS])
            refine wp_region_lit ?_
            refine sv' hF (wn rfl) rfl rfl (R.move (hF.ev rfl)) fun a hF => ?_
            refine sv' hF (wn rfl) rfl rfl (R.nilCheck (hF.ev rfl)) fun a hF => ?_
            refine sv' hF (wn rfl) rfl rfl (R.fieldAddr (k := 1) Try.underlying100 rfl nz98 (hF.ev rfl) rfl) fun a hF => ?_
            refine sv' hF (wn rfl) rfl rfl (R.move (hF.ev rfl)) fun a hF => ?_
            refine so (wn rfl) (O.callK rfl rfl hF ent80 (hF.evs rfl) hS (addIndex_calls bv bt V.lock r sp V.paid i _ hPd (hS.own1 (.t .h))) (fun _ => (.t .h)) fun v s54 a w hR hF hS => ?_)
            obtain ⟨r2, sp2, rfl, hP2⟩ := hR
            refine s0 ?_
            refine then_n (hK17 _ _ ?_)
            refine wp_seq_k fun K18 hK18 => ?_
            refine wp_region_lit ?_
            refine sv' hF (wn rfl) rfl rfl (R.assign (hF.ev rfl)) fun a hF => ?_
            refine s0 ?_
            refine then_n (hK18 _ _ ?_)
            refine wp_ret (hR _ _ _ _ _ hF (run_results Try.results30 (.t hF rfl (.nil))) ?_)
            have e : V.pay i n x = ({ V with tok := updF V.tok n (some (tS (V.tok n), tH (V.tok n) - x)), paid := updF V.paid i true }, 0) := by unfold Vau.pay; rw [if_neg (by omega), if_neg (by omega), if_neg (by simp [c3]), if_pos c4]
            rw [e]
            have hS := hS.sel [0, 1] rfl rfl
            have hS := hS.flat (bs' := [[(bt, .map es' c')], [(bv, Cel (.map (some bt) :: .map r2 :: wc V.lock) 100)], sp2]) (by simp [selS])
            obtain ⟨s', h1, h2⟩ := VaultS.close (V := { V with tok := updF V.tok n (some (tS (V.tok n), tH (V.tok n) - x)), paid := updF V.paid i true }) (hS.sel [1, 0, 2] rfl rfl) hM hP2 hL (tH_upd hH (by have := hH n; omega))
            exact ⟨_, s', rfl, ⟨rfl, h1⟩, h2⟩

end Go.Proofs.Ythgecfjpacebeaa
