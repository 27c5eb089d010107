/- A step. -/
import Derived.Test.YtlapmbkfmbkdoaaDs
namespace Go.Proofs.Ytlapmbkfmbkdoaa
open Go Go.Fw Go.RowKit
attribute [local irreducible] Go.Oper.wp Go.Code.wp Go.wpList Go.Fw.WL Go.Calls
def DidS (F : Fx) (V : Vr) (o : Out) (x : Value) (s' : Seg) : Prop := match o with
  | .more stk left p asks => x = .int .i64 0 ∧ ∃ V' s1 s2, s' = s1 ++ s2 ∧ RunS F V' stk s1 ∧ HostS F asks s2 ∧ V'.left = left ∧ V'.next = p ∧ V'.ended = V.ended ∧ V'.value = V.value
  | .fin val left asks => x = .int .i64 0 ∧ ∃ V' stk s1 s2, s' = s1 ++ s2 ∧ RunS F V' stk s1 ∧ HostS F asks s2 ∧ V'.left = left ∧ V'.ended = true ∧ V'.value = val
  | .err e asks => x = .int .i64 e ∧ e ≠ 0 ∧ ∃ s1 s2, s' = s1 ++ s2 ∧ HostS F asks s2
theorem did_did {F : Fx} {V V' : Vr} {o : Out} {x : Value} {s' : Seg} (h : Did F V' o x s') (h1 : V'.ended = V.ended) (h2 : V'.value = V.value) : DidS F V o x s' := by
  cases o with
  | more stk left p asks =>
    obtain ⟨a, b, s1, s2, c, d, e⟩ := h
    exact ⟨a, _, s1, s2, c, d, e, b.symm, rfl, h1, h2⟩
  | fin val left asks =>
    obtain ⟨a, b, stk, s1, s2, c, d, e⟩ := h
    exact ⟨a, _, stk, s1, s2, c, d, e, b.symm, rfl, rfl⟩
  | err e asks => exact h
theorem stp_end {cl : Cl} {code : List Nat} {rep : Nat → Nat × Int} {stk : List Nat} {left p : Nat} {asks : List Fw.Ask} (h : code.length ≤ p) : stp cl code rep stk left p asks = .err 106 asks := by simp [stp, h]
theorem stp_gas {cl : Cl} {code : List Nat} {rep : Nat → Nat × Int} {stk : List Nat} {left p : Nat} {asks : List Fw.Ask} (h : p < code.length) (h2 : left < priceN (cAt code p)) : stp cl code rep stk left p asks = .err 102 asks := by
  have : ¬ code.length ≤ p := by omega
  simp [stp, this, h2]
def deepN (code : List Nat) (p : Nat) : Nat := if cAt code p = 4 ∨ cAt code p = 5 then cAt code (p + 1) + 1 else takesN (cAt code p)
theorem deep_le {code : List Nat} {p : Nat} : takesN (cAt code p) ≤ deepN code p := by
  unfold deepN
  split
  · rename_i h; rw [take_45 h]; omega
  · exact Nat.le_refl _
theorem stp_stack {cl : Cl} {code : List Nat} {rep : Nat → Nat × Int} {stk : List Nat} {left p : Nat} {asks : List Fw.Ask} (h : p < code.length) (h2 : ¬ left < priceN (cAt code p)) (h3 : stk.length < deepN code p ∨ 64 < stk.length - takesN (cAt code p) + laysN (cAt code p)) : stp cl code rep stk left p asks = .err 103 asks := by
  have h1 : ¬ code.length ≤ p := by omega
  unfold stp
  rw [if_neg h1, if_neg h2]
  exact if_pos h3
theorem stp_do {cl : Cl} {code : List Nat} {rep : Nat → Nat × Int} {stk : List Nat} {left p : Nat} {asks : List Fw.Ask} (h : p < code.length) (h2 : ¬ left < priceN (cAt code p)) (h3 : ¬ (stk.length < deepN code p ∨ 64 < stk.length - takesN (cAt code p) + laysN (cAt code p))) :
    stp cl code rep stk left p asks = doN cl code rep (cAt code p) (cAt code (p + 1)) p (left - priceN (cAt code p)) (stk.take (stk.length - takesN (cAt code p))) (fun i => stk.getD (stk.length - takesN (cAt code p) + i) 0) asks := by
  have h1 : ¬ code.length ≤ p := by omega
  unfold stp
  rw [if_neg h1, if_neg h2]
  exact if_neg h3
theorem one82 : oneT Try.prog 82 = true := by kernel_rfl
theorem nz82 : nzT Try.prog 82 = true := by kernel_rfl
theorem ze100b : zeT Try.prog 100 (.agg (List.replicate 12 (.int .u64 0)).toArray) := by unfold zeT; kernel_rfl

set_option maxHeartbeats 4000000 in
theorem step_calls (F : Fx) (V : Vr) (stk : List Nat) (asks : List Fw.Ask) (s1 s2 : Seg) (tb : Nat) (w0 : World) (hNX : NextOK F) (hK : F.Ok) (hval : V.p < F.code.length → sizeN F.code V.p ≠ 0) (hRun : RunS F V stk s1) (hH : HostS F asks s2) (ho : Own w0 (s1 ++ s2)) (hT : RdK w0 ((s1 ++ s2).map (·.1)) (some ⟨tb, 0, none⟩) tabL) (hD' : F.Rds w0 ((s1 ++ s2).map (·.1))) (hl : stk.length ≤ 64) (hW : AllW stk) (hla : asks.length ≤ 20000) (hq : V.left ≤ 10000) : Ret Try.prog 38 [.pointer (some ⟨F.rb, 0, none⟩), .pointer (some ⟨tb, 0, none⟩)] w0 ((s1 ++ s2).map (·.1)) (fun x s' => DidS F V (stp F.cl F.code F.rep stk V.left V.p asks) x s') := by
  refine fn_start Try.func38 rfl Try.ntmps38 rfl [(0, .pointer (some ⟨F.rb, 0, none⟩)), (1, .pointer (some ⟨tb, 0, none⟩))] ⟨rfl, rfl, trivial⟩ ?_
  intro Q a hP hF hR hN
  have hS := St.enter ho
  obtain ⟨A, c, sg, hs, hO⟩ := hRun; have hS := hS.flat (bs' := [[(F.rb, Cel (rcells F (.slice A stk.length c) V) 81)], sg, s2]) (by simp [hs])
  refine wp_seq_k fun K1 hK1 => ?_
  refine wp_region_lit ?_
  refine sv' hF (wn rfl) rfl rfl (R.assign (hF.ev rfl)) fun a hF => ?_
  refine s0 ?_
  refine then_n (hK1 _ _ ?_)
  refine wp_seq_k fun K2 hK2 => ?_
  refine wp_seq_k fun K3 hK3 => ?_
  refine wp_drawG hS (hS.sel [0] rfl rfl) [(0, 0), (1, 0), (2, 0), (3, 1), (4, 0), (5, 0), (6, 0), (7, 1), (8, 0), (9, 0)] mix (by kernel_rfl) (hP.then.then) fun w hS hD => ?_
  refine dq hF rfl (wn rfl) rfl rfl (fun w => R.move (hF.ev rfl)) fun a hF => ?_
  refine dq hF rfl (wn rfl) rfl rfl (fun w => R.nilCheck (hF.ev rfl)) fun a hF => ?_
  refine dq hF rfl (wn rfl) rfl rfl (fun w => R.fieldAddr (k := 52) Try.underlying81 rfl nz3 (hF.ev rfl) rfl) fun a hF => ?_
  refine dr hF rfl (wn rfl) rfl rfl hD (fun w hD => R.load one3 (hF.ev rfl) hD .h (rfl)) fun a hF => ?_
  refine dq hF rfl (wn rfl) rfl rfl (fun w => R.move (hF.ev rfl)) fun a hF => ?_
  refine dq hF rfl (wn rfl) rfl rfl (fun w => R.nilCheck (hF.ev rfl)) fun a hF => ?_
  refine dq hF rfl (wn rfl) rfl rfl (fun w => R.fieldAddr (k := 0) Try.underlying81 rfl nz23 (hF.ev rfl) rfl) fun a hF => ?_
  refine dr hF rfl (wn rfl) rfl rfl hD (fun w hD => R.load one23 (hF.ev rfl) hD .h (rfl)) fun a hF => ?_
  refine dq hF rfl (wn rfl) rfl rfl (fun w => R.len Try.underlying23 (hF.ev rfl)) fun a hF => ?_
  refine dq hF rfl (wn rfl) rfl rfl (fun w => R.geq (hF.ev rfl) (hF.ev rfl)) fun a hF => ?_
  refine d0 ?_
  refine then_n (hK3 _ _ ?_)
  refine cD hF rfl (fun c1 => ?_) (fun c1 => ?_)
  ·
    refine wp_seq_k fun K4 hK4 => ?_
    refine wp_region_lit ?_
    refine sv' hF (wn rfl) rfl rfl (R.assign (hF.ev rfl)) fun a hF => ?_
    refine s0 ?_
    refine then_n (hK4 _ _ ?_)
    refine wp_ret (then_r (hR _ _ _ _ _ hF (run_results Try.results38 (.t hF rfl (.nil))) ?_))
    rw [stp_end (by omega)]
    exact ⟨_, s2, rfl, ⟨rfl, by decide, [], s2, rfl, hH⟩, hS.one (.t (.t .h))⟩
  ·
    have hp : V.p < F.code.length := by omega
    have hs0 := hval hp
    have h28 := size_28 hs0
    obtain ⟨nm, hrow⟩ := row_at h28
    have htd : takesN (cAt F.code V.p) ≤ deepN F.code V.p := deep_le
    have hsm := take_small _ h28; have hb1 := cAt_lt hK.byt (V.p + 1); have hb0 := cAt_lt hK.byt V.p; have hlen := hK.len; have hsz := (sizeN_le F.code V.p).resolve_left hs0
    refine wp_skip ?_
    refine then_n (hK2 _ _ ?_)
    refine wp_seq_k fun K5 hK5 => ?_
    refine wp_drawG hS (hS.sel [0] rfl rfl) [(0, 0), (1, 0), (2, 0), (3, 0), (4, 1), (5, 0), (6, 0), (7, 0), (8, 1), (9, 0), (10, 1), (11, 0), (12, 0), (13, 1), (14, 2), (15, 3)] mix (by kernel_rfl) (hP.then) fun w hS hD => ?_
    refine dq hF rfl (wn rfl) rfl rfl (fun w => R.move (hF.ev rfl)) fun a hF => ?_
    refine dq hF rfl (wn rfl) rfl rfl (fun w => R.move (hF.ev rfl)) fun a hF => ?_
    refine dq hF rfl (wn rfl) rfl rfl (fun w => R.nilCheck (hF.ev rfl)) fun a hF => ?_
    refine dq hF rfl (wn rfl) rfl rfl (fun w => R.fieldAddr (k := 0) Try.underlying81 rfl nz23 (hF.ev rfl) rfl) fun a hF => ?_
    refine dr hF rfl (wn rfl) rfl rfl hD (fun w hD => R.load one23 (hF.ev rfl) hD .h (rfl)) fun a hF => ?_
    refine dq hF rfl (wn rfl) rfl rfl (fun w => R.move (hF.ev rfl)) fun a hF => ?_
    refine dq hF rfl (wn rfl) rfl rfl (fun w => R.nilCheck (hF.ev rfl)) fun a hF => ?_
    refine dq hF rfl (wn rfl) rfl rfl (fun w => R.fieldAddr (k := 52) Try.underlying81 rfl nz3 (hF.ev rfl) rfl) fun a hF => ?_
    refine dr hF rfl (wn rfl) rfl rfl hD (fun w hD => R.load one3 (hF.ev rfl) hD .h (rfl)) fun a hF => ?_
    refine dq hF rfl (wn rfl) rfl rfl (fun w => R.indexO Try.underlying23 sz5 (hF.ev rfl) (Rd.ne (hD'.code.old hS) (by rw [length_byts]; omega)) (hF.ev rfl) (by omega) (by omega)) fun a hF => ?_
    refine dr hF rfl (wn rfl) rfl rfl hD (fun w hD => R.loadO one5 (hF.ev rfl) (hD'.code.old hD) (cb_at (i := V.p) (by omega) (by omega))) fun a hF => ?_
    refine dq hF rfl (wn rfl) rfl rfl (fun w => R.nilCheck (hF.ev rfl)) fun a hF => ?_
    refine dq hF rfl (wn rfl) rfl rfl (fun w => R.indexA Try.underlying85 sz84 (hF.ev rfl) (hF.ev rfl) (by omega) (by omega)) fun a hF => ?_
    refine dr hF rfl (wn rfl) rfl rfl hD (fun w hD => R.loadAP (cs := rowC nm (cAt F.code V.p)) (xs := tabL) agg84 (hF.ev rfl) (hT.old hD) sz84 rfl (Nat.succ_pos _) (hrow _ (by omega))) fun a hF => ?_
    refine dl rfl (wn rfl) (O.alloc rfl rfl hF ze84 rfl hS fun b5 a w hF hS => ⟨fun hD => hS.sel [1] rfl rfl, ?_⟩)
    have hD := hS.sel [1] rfl rfl
    refine dw rfl (wn rfl) (O.storeW sz84 (hF.ev rfl) (hF.ev rfl) (rfl) rfl (one_row _ _) hS .h (rfl) fun w hS => ?_)
    refine d0 ?_
    refine then_n (hK5 _ _ ?_)
    refine wp_seq_k fun K6 hK6 => ?_
    refine wp_seq_k fun K7 hK7 => ?_
    refine wp_drawS hS [(0, 0), (1, 1), (2, 0), (3, 0), (4, 0), (5, 1), (6, 0)] mix (by kernel_rfl) (hP.then.then) fun w hS => ?_
    have hD := hS
    refine dq hF rfl (wn rfl) rfl rfl (fun w => R.fieldAddr (k := 1) Try.underlying84 rfl nz3 (hF.ev rfl) rfl) fun a hF => ?_
    refine dr hF rfl (wn rfl) rfl rfl hD (fun w hD => R.load one3 (hF.ev rfl) hD .h (rfl)) fun a hF => ?_
    refine dq hF rfl (wn rfl) rfl rfl (fun w => R.move (hF.ev rfl)) fun a hF => ?_
    refine dq hF rfl (wn rfl) rfl rfl (fun w => R.nilCheck (hF.ev rfl)) fun a hF => ?_
    refine dq hF rfl (wn rfl) rfl rfl (fun w => R.fieldAddr (k := 51) Try.underlying81 rfl nz3 (hF.ev rfl) rfl) fun a hF => ?_
    refine dr hF rfl (wn rfl) rfl rfl hD (fun w hD => R.load one3 (hF.ev rfl) hD (.t .h) (rfl)) fun a hF => ?_
    refine dq hF rfl (wn rfl) rfl rfl (fun w => R.gtr (hF.ev rfl) (hF.ev rfl)) fun a hF => ?_
    refine d0 ?_
    refine then_n (hK7 _ _ ?_)
    refine cD hF rfl (fun c2 => ?_) (fun c2 => ?_)
    ·
      refine wp_seq_k fun K8 hK8 => ?_
      refine wp_region_lit ?_
      refine sv' hF (wn rfl) rfl rfl (R.assign (hF.ev rfl)) fun a hF => ?_
      refine s0 ?_
      refine then_n (hK8 _ _ ?_)
      refine wp_ret (then_r (hR _ _ _ _ _ hF (run_results Try.results38 (.t hF rfl (.nil))) ?_))
      rw [stp_gas hp (by omega)]
      exact ⟨_, s2, rfl, ⟨rfl, by decide, [], s2, rfl, hH⟩, hS.one (.t (.t (.t .h)))⟩
    ·
      refine wp_skip ?_
      refine then_n (hK6 _ _ ?_)
      refine wp_seq_k fun K9 hK9 => ?_
      refine wp_drawS hS [(0, 0), (1, 0), (2, 0), (3, 1), (4, 0), (5, 1), (6, 0), (7, 0), (8, 0), (9, 3)] mix (by kernel_rfl) (hP.then) fun w hS => ?_
      have hD := hS
      refine dq hF rfl (wn rfl) rfl rfl (fun w => R.move (hF.ev rfl)) fun a hF => ?_
      refine dq hF rfl (wn rfl) rfl rfl (fun w => R.nilCheck (hF.ev rfl)) fun a hF => ?_
      refine dq hF rfl (wn rfl) rfl rfl (fun w => R.fieldAddr (k := 51) Try.underlying81 rfl nz3 (hF.ev rfl) rfl) fun a hF => ?_
      refine dr hF rfl (wn rfl) rfl rfl hD (fun w hD => R.load one3 (hF.ev rfl) hD (.t .h) (rfl)) fun a hF => ?_
      refine dq hF rfl (wn rfl) rfl rfl (fun w => R.fieldAddr (k := 1) Try.underlying84 rfl nz3 (hF.ev rfl) rfl) fun a hF => ?_
      refine dr hF rfl (wn rfl) rfl rfl hD (fun w hD => R.load one3 (hF.ev rfl) hD .h (rfl)) fun a hF => ?_
      refine dq hF rfl (wn rfl) rfl rfl (fun w => R.as (u := .int .i64 ((V.left - priceN (cAt F.code V.p) : Nat) : Int)) (R.subI (hF.ev rfl) (hF.ev rfl) (by omega)) (congrArg (Value.int .i64) (by omega))) fun a hF => ?_
      refine dq hF rfl (wn rfl) rfl rfl (fun w => R.nilCheck (hF.ev rfl)) fun a hF => ?_
      refine dq hF rfl (wn rfl) rfl rfl (fun w => R.fieldAddr (k := 51) Try.underlying81 rfl nz3 (hF.ev rfl) rfl) fun a hF => ?_
      refine dw rfl (wn rfl) (O.store sz3 (hF.ev rfl) (hF.ev rfl) rfl rfl hS (.t .h) (show List.set _ _ _ = rcells F (.slice A stk.length c) { V with left := V.left - priceN (cAt F.code V.p) } from rfl) (by first | decide | omega | (show _ < 59; decide) | (show _ < 3; decide) | simp) fun w hS => ?_)
      refine d0 ?_
      refine then_n (hK9 _ _ ?_)
      refine wp_seq_k fun K10 hK10 => ?_
      refine wp_region_lit ?_
      refine sv' hF (wn rfl) rfl rfl (R.fieldAddr (k := 2) Try.underlying84 rfl nz3 (hF.ev rfl) rfl) fun a hF => ?_
      refine sv' hF (wn rfl) rfl rfl (R.load one3 (hF.ev rfl) hS .h (rfl)) fun a hF => ?_
      refine sv' hF (wn rfl) rfl rfl (R.assign (hF.ev rfl)) fun a hF => ?_
      refine s0 ?_
      refine then_n (hK10 _ _ ?_)
      refine wp_seq_k fun K11 hK11 => ?_
      have hK11' : ∀ a w, (∃ (dp : Nat), Fr 141 [(0, .pointer (some ⟨F.rb, 0, none⟩)), (1, .pointer (some ⟨tb, 0, none⟩)), (5, .pointer (some ⟨b5, 0, none⟩)), (6, .int .i64 ((dp : Nat) : Int))] a ∧ St w0 ((s1 ++ s2).map (·.1)) [[(F.rb, Cel (rcells F (.slice A stk.length c) { V with left := V.left - priceN (cAt F.code V.p) }) 81)], sg, [(b5, Cel (rowC nm (cAt F.code V.p)) 84)], s2] w ∧ (dp = deepN F.code V.p)) → K11 a w := by
        rintro a w ⟨dp, hF, hS, hdp⟩
        refine hK11 _ _ ?_
        refine wp_seq_k fun K12 hK12 => ?_
        refine wp_seq_k fun K13 hK13 => ?_
        have hK13' : ∀ a w, (Fr 141 [(0, .pointer (some ⟨F.rb, 0, none⟩)), (1, .pointer (some ⟨tb, 0, none⟩)), (5, .pointer (some ⟨b5, 0, none⟩)), (91, .bool (decide (stk.length < dp ∨ 64 < stk.length - takesN (cAt F.code V.p) + laysN (cAt F.code V.p))))] a ∧ St w0 ((s1 ++ s2).map (·.1)) [[(F.rb, Cel (rcells F (.slice A stk.length c) { V with left := V.left - priceN (cAt F.code V.p) }) 81)], sg, [(b5, Cel (rowC nm (cAt F.code V.p)) 84)], s2] w) → K13 a w := by
          rintro a w ⟨hF, hS⟩
          refine hK13 _ _ ?_
          refine cD hF rfl (fun c4 => ?_) (fun c4 => ?_)
          ·
            refine wp_seq_k fun K14 hK14 => ?_
            refine wp_region_lit ?_
            refine sv' hF (wn rfl) rfl rfl (R.assign (hF.ev rfl)) fun a hF => ?_
            refine s0 ?_
            refine then_n (hK14 _ _ ?_)
            refine wp_ret (then_r (hR _ _ _ _ _ hF (run_results Try.results38 (.t hF rfl (.nil))) ?_))
            rw [stp_stack hp (by omega) (by rw [← hdp]; omega)]
            exact ⟨_, s2, rfl, ⟨rfl, by decide, [], s2, rfl, hH⟩, hS.one (.t (.t (.t .h)))⟩
          ·
            refine wp_skip ?_
            refine then_n (hK12 _ _ ?_)
            refine wp_seq_k fun K15 hK15 => ?_
            refine wp_drawS hS [(0, 0), (1, 0), (2, 0), (3, 1), (4, 0), (5, 0), (6, 1), (7, 0), (8, 0)] mix (by kernel_rfl) (hP.then) fun w hS => ?_
            have hD := hS
            refine dq hF rfl (wn rfl) rfl rfl (fun w => R.move (hF.ev rfl)) fun a hF => ?_
            refine dq hF rfl (wn rfl) rfl rfl (fun w => R.nilCheck (hF.ev rfl)) fun a hF => ?_
            refine dq hF rfl (wn rfl) rfl rfl (fun w => R.fieldAddr (k := 50) Try.underlying81 rfl nz32 (hF.ev rfl) rfl) fun a hF => ?_
            refine dr hF rfl (wn rfl) rfl rfl hD (fun w hD => R.load one32 (hF.ev rfl) hD .h (rfl)) fun a hF => ?_
            refine dq hF rfl (wn rfl) rfl rfl (fun w => R.len Try.underlying32 (hF.ev rfl)) fun a hF => ?_
            refine dq hF rfl (wn rfl) rfl rfl (fun w => R.fieldAddr (k := 2) Try.underlying84 rfl nz3 (hF.ev rfl) rfl) fun a hF => ?_
            refine dr hF rfl (wn rfl) rfl rfl hD (fun w hD => R.load one3 (hF.ev rfl) hD (.t (.t .h)) (rfl)) fun a hF => ?_
            refine dq hF rfl (wn rfl) rfl rfl (fun w => R.as (u := .int .i64 ((stk.length - takesN (cAt F.code V.p) : Nat) : Int)) (R.subI (hF.ev rfl) (hF.ev rfl) (by omega)) (congrArg (Value.int .i64) (by omega))) fun a hF => ?_
            refine dq hF rfl (wn rfl) rfl rfl (fun w => R.assign (hF.ev rfl)) fun a hF => ?_
            refine d0 ?_
            refine then_n (hK15 _ _ ?_)
            refine wp_seq_k fun K16 hK16 => ?_
            refine wp_region_lit ?_
            refine so (wn rfl) (O.alloc rfl rfl hF ze100b rfl hS fun b9 a w hF hS => ?_)
            refine s0 ?_
            refine then_n (hK16 _ _ ?_)
            refine wp_seq_k fun K17 hK17 => ?_
            refine wp_drawG hS (hS.sel [1] rfl rfl) [(0, 0), (1, 0), (2, 0), (3, 0), (4, 1), (5, 0), (6, 0), (7, 2)] mix (by kernel_rfl) (hP.then) fun w hS hD => ?_
            refine dq hF rfl (wn rfl) rfl rfl (fun w => R.sliceAll Try.underlying100 sz31 (hF.ev rfl)) fun a hF => ?_
            refine dq hF rfl (wn rfl) rfl rfl (fun w => R.move (hF.ev rfl)) fun a hF => ?_
            refine dq hF rfl (wn rfl) rfl rfl (fun w => R.nilCheck (hF.ev rfl)) fun a hF => ?_
            refine dq hF rfl (wn rfl) rfl rfl (fun w => R.fieldAddr (k := 50) Try.underlying81 rfl nz32 (hF.ev rfl) rfl) fun a hF => ?_
            refine dr hF rfl (wn rfl) rfl rfl hD (fun w hD => R.load one32 (hF.ev rfl) hD .h (rfl)) fun a hF => ?_
            refine dq hF rfl (wn rfl) rfl rfl (fun w => R.move (hF.ev rfl)) fun a hF => ?_
            refine dq hF rfl (wn rfl) rfl rfl (fun w => R.sliceLo (p := (stk.length - takesN (cAt F.code V.p))) Try.underlying32 (hF.ev rfl) (hF.ev rfl) (by omega) sz31) fun a hF => ?_
            refine dl rfl (wn rfl) (O.copyAt (o := 0) (cs := (stk.drop (stk.length - takesN (cAt F.code V.p))).flatMap wc) rfl rfl hF Try.underlying32 sz31 (hF.ev rfl) (hF.ev rfl) hS (rd_drop (hO.rd hS (.t (.t .h))) hO.2.1 (stk.length - takesN (cAt F.code V.p))) (by rw [wcs_length, List.length_drop]) (by decide) (wcs_one _) .h (spl_top (by omega) (by omega)) (by rw [List.length_replicate]; omega) fun a w hF hS => ⟨fun hD => hS.sel [1] rfl rfl, ?_⟩)
            have hD := hS.sel [1] rfl rfl
            refine d0 ?_
            refine then_n (hK17 _ _ ?_)
            refine wp_seq_k fun K18 hK18 => ?_
            refine wp_region_lit ?_
            refine sv' hF (wn rfl) rfl rfl (R.move (hF.ev rfl)) fun a hF => ?_
            refine sv' hF (wn rfl) rfl rfl (R.move (hF.ev rfl)) fun a hF => ?_
            refine sv' hF (wn rfl) rfl rfl (R.nilCheck (hF.ev rfl)) fun a hF => ?_
            refine sv' hF (wn rfl) rfl rfl (R.fieldAddr (k := 50) Try.underlying81 rfl nz32 (hF.ev rfl) rfl) fun a hF => ?_
            refine sv' hF (wn rfl) rfl rfl (R.load one32 (hF.ev rfl) hS (.t .h) (rfl)) fun a hF => ?_
            refine sv' hF (wn rfl) rfl rfl (R.move (hF.ev rfl)) fun a hF => ?_
            refine sv' hF (wn rfl) rfl rfl (R.as (u := .slice A (stk.length - takesN (cAt F.code V.p)) c) (R.sliceHi Try.underlying32 (hF.ev rfl) (hF.ev rfl) (by omega) (by have := hO.2.1; omega) _ sz31) (congrArg (fun z => Value.slice A z c) (by omega))) fun a hF => ?_
            refine sv' hF (wn rfl) rfl rfl (R.nilCheck (hF.ev rfl)) fun a hF => ?_
            refine sv' hF (wn rfl) rfl rfl (R.fieldAddr (k := 50) Try.underlying81 rfl nz32 (hF.ev rfl) rfl) fun a hF => ?_
            refine so (wn rfl) (O.store sz32 (hF.ev rfl) (hF.ev rfl) rfl rfl hS (.t .h) (show List.set _ _ _ = rcells F (.slice A (stk.length - takesN (cAt F.code V.p)) c) { V with left := V.left - priceN (cAt F.code V.p) } from rfl) (by first | decide | omega | (show _ < 59; decide) | (show _ < 3; decide) | simp) fun w hS => ?_)
            refine s0 ?_
            refine then_n (hK18 _ _ ?_)
            refine wp_seq_k fun K19 hK19 => ?_
            refine wp_drawS hS [(0, 0), (1, 0), (2, 0), (3, 0), (4, 1), (5, 0), (6, 0), (7, 0), (8, 1), (9, 0), (10, 0), (11, 0), (12, 1), (13, 2), (14, 0), (15, 0), (16, 0), (17, 3)] mix (by kernel_rfl) (hP.then) fun w hS => ?_
            have hD := hS
            refine dq hF rfl (wn rfl) rfl rfl (fun w => R.move (hF.ev rfl)) fun a hF => ?_
            refine dq hF rfl (wn rfl) rfl rfl (fun w => R.move (hF.ev rfl)) fun a hF => ?_
            refine dq hF rfl (wn rfl) rfl rfl (fun w => R.nilCheck (hF.ev rfl)) fun a hF => ?_
            refine dq hF rfl (wn rfl) rfl rfl (fun w => R.fieldAddr (k := 52) Try.underlying81 rfl nz3 (hF.ev rfl) rfl) fun a hF => ?_
            refine dr hF rfl (wn rfl) rfl rfl hD (fun w hD => R.load one3 (hF.ev rfl) hD (.t .h) (rfl)) fun a hF => ?_
            dsimp only at hF
            refine dq hF rfl (wn rfl) rfl rfl (fun w => R.move (hF.ev rfl)) fun a hF => ?_
            refine dq hF rfl (wn rfl) rfl rfl (fun w => R.nilCheck (hF.ev rfl)) fun a hF => ?_
            refine dq hF rfl (wn rfl) rfl rfl (fun w => R.fieldAddr (k := 0) Try.underlying81 rfl nz23 (hF.ev rfl) rfl) fun a hF => ?_
            refine dr hF rfl (wn rfl) rfl rfl hD (fun w hD => R.load one23 (hF.ev rfl) hD (.t .h) (rfl)) fun a hF => ?_
            refine dq hF rfl (wn rfl) rfl rfl (fun w => R.move (hF.ev rfl)) fun a hF => ?_
            refine dq hF rfl (wn rfl) rfl rfl (fun w => R.nilCheck (hF.ev rfl)) fun a hF => ?_
            refine dq hF rfl (wn rfl) rfl rfl (fun w => R.fieldAddr (k := 52) Try.underlying81 rfl nz3 (hF.ev rfl) rfl) fun a hF => ?_
            refine dr hF rfl (wn rfl) rfl rfl hD (fun w hD => R.load one3 (hF.ev rfl) hD (.t .h) (rfl)) fun a hF => ?_
            dsimp only at hF
            refine dl rfl (wn rfl) (O.call rfl rfl hF ent20 (hF.evs rfl) hS (size_calls F.cA F.code.length F.cc F.code V.p _ (hD'.code.old hS) rfl hK.cap hK.cap2 hK.byt (by omega)) fun v s130 a w hR hF hS => ⟨fun hD => hS.tail, ?_⟩)
            obtain ⟨rfl, rfl⟩ := hR
            have hD := hS.tail
            refine dq hF rfl (wn rfl) rfl rfl (fun w => R.addI (hF.ev rfl) (hF.ev rfl) (by omega)) fun a hF => ?_
            refine dq hF rfl (wn rfl) rfl rfl (fun w => R.nilCheck (hF.ev rfl)) fun a hF => ?_
            refine dq hF rfl (wn rfl) rfl rfl (fun w => R.fieldAddr (k := 53) Try.underlying81 rfl nz3 (hF.ev rfl) rfl) fun a hF => ?_
            refine dw rfl (wn rfl) (O.store sz3 (hF.ev rfl) (hF.ev rfl) rfl rfl hS (.t (.t .h)) (show List.set _ _ _ = rcells F (.slice A (stk.length - takesN (cAt F.code V.p)) c) { V with left := V.left - priceN (cAt F.code V.p), next := V.p + sizeN F.code V.p } from rfl) (by first | decide | omega | (show _ < 59; decide) | (show _ < 3; decide) | simp) fun w hS => ?_)
            refine d0 ?_
            refine then_n (hK19 _ _ ?_)
            refine wp_seq_k fun K20 hK20 => ?_
            refine wp_drawG hS (hS.sel [4] rfl rfl) [(0, 0), (1, 1), (2, 0), (3, 0), (4, 1), (5, 0), (6, 2), (7, 0)] mix (by kernel_rfl) (hP.then) fun w hS hD => ?_
            refine dq hF rfl (wn rfl) rfl rfl (fun w => R.fieldAddr (k := 4) Try.underlying84 rfl nz82 (hF.ev rfl) rfl) fun a hF => ?_
            refine dr hF rfl (wn rfl) rfl rfl hD (fun w hD => R.load one82 (hF.ev rfl) hD .h (rfl)) fun a hF => ?_
            refine dq hF rfl (wn rfl) rfl rfl (fun w => R.move (hF.ev rfl)) fun a hF => ?_
            refine dq hF rfl (wn rfl) rfl rfl (fun w => R.fieldAddr (k := 2) Try.underlying84 rfl nz3 (hF.ev rfl) rfl) fun a hF => ?_
            refine dr hF rfl (wn rfl) rfl rfl hD (fun w hD => R.load one3 (hF.ev rfl) hD .h (rfl)) fun a hF => ?_
            refine dq hF rfl (wn rfl) rfl rfl (fun w => R.as (u := .slice (some ⟨b9, 0, none⟩) (takesN (cAt F.code V.p)) 3) (R.sliceArr Try.underlying100 sz31 (hF.ev rfl) (hF.ev rfl) (by omega) (by omega)) (congrArg (fun z => Value.slice (some ⟨b9, 0, none⟩) z 3) (by omega))) fun a hF => ?_
            have hS := (hS.sel [4, 1, 2, 3, 5] rfl rfl).flat (bs' := [[(b5, Cel (rowC nm (cAt F.code V.p)) 84)], [(b9, Cel (vc (fun i => stk.getD ((stk.length - takesN (cAt F.code V.p)) + i) 0)) 100)], ((F.rb, Cel (rcells F (.slice A (stk.length - takesN (cAt F.code V.p)) c) { V with left := V.left - priceN (cAt F.code V.p), next := V.p + sizeN F.code V.p }) 81) :: sg) ++ s2]) (by simp [selS])
            refine dl rfl (wn rfl) (O.callV rfl rfl hF (hF.ev rfl) (entC h28) (hF.evs rfl) hS (op_does _ F { V with left := V.left - priceN (cAt F.code V.p), next := V.p + sizeN F.code V.p } (stk.take (stk.length - takesN (cAt F.code V.p))) asks ((F.rb, Cel (rcells F (.slice A (stk.length - takesN (cAt F.code V.p)) c) { V with left := V.left - priceN (cAt F.code V.p), next := V.p + sizeN F.code V.p }) 81) :: sg) s2 b9 _ _ hNX hK rfl h28 hp hs0 rfl (by show V.left - _ ≤ 10000; omega) (fun h45 => by (have := take_45 h45; have hdd : deepN F.code V.p = cAt F.code (V.p + 1) + 1 := if_pos h45; rw [List.length_take]; show cAt F.code (V.p + 1) < _; omega)) ⟨A, c, sg, by rw [List.length_take, Nat.min_eq_left (by omega)], by (rw [List.length_take, Nat.min_eq_left (by omega)]; have := hO.take (k := (stk.length - takesN (cAt F.code V.p))) (by omega); rw [wcs_take] at this; exact this)⟩ hH (hS.own1 (.t (.t .h))) (RdK.apart (hS.sel [1, 2] rfl rfl) (Rd.own0 hS (.t .h)) (List.mem_singleton.2 rfl)) (fun i => allW_getD hW _) (hD'.down hS (.t (.t .h))) (by rw [List.length_take]; omega) hla) (fun _ => (.t (.t .h))) fun v s140 a w hR9 hF hS => ⟨fun hD => hS.sel [0] rfl rfl, ?_⟩)
            have hD := hS.sel [0] rfl rfl
            refine dq hF rfl (wn rfl) rfl rfl (fun w => R.assign (hF.ev rfl)) fun a hF => ?_
            refine d0 ?_
            refine then_n (hK20 _ _ ?_)
            refine wp_ret (hR _ _ _ _ _ hF (run_results Try.results38 (.t hF rfl (.nil))) ?_)
            rw [stp_do hp (by omega) (by rw [← hdp]; omega)]
            exact ⟨_, s140, rfl, did_did hR9 rfl rfl, hS.one (.t (.t .h))⟩
        refine wp_drawS hS [(0, 0), (1, 0), (2, 0), (3, 1), (4, 0), (5, 0), (6, 0), (7, 0), (8, 0), (9, 0), (10, 0), (11, 1), (12, 0), (13, 0), (14, 1), (15, 0), (16, 0), (17, 1), (18, 0), (19, 0), (20, 0)] mix (by kernel_rfl) (hP.then.then) fun w hS => ?_
        have hD := hS
        refine dq hF rfl (wn rfl) rfl rfl (fun w => R.move (hF.ev rfl)) fun a hF => ?_
        refine dq hF rfl (wn rfl) rfl rfl (fun w => R.nilCheck (hF.ev rfl)) fun a hF => ?_
        refine dq hF rfl (wn rfl) rfl rfl (fun w => R.fieldAddr (k := 50) Try.underlying81 rfl nz32 (hF.ev rfl) rfl) fun a hF => ?_
        refine dr hF rfl (wn rfl) rfl rfl hD (fun w hD => R.load one32 (hF.ev rfl) hD .h (rfl)) fun a hF => ?_
        refine dq hF rfl (wn rfl) rfl rfl (fun w => R.len Try.underlying32 (hF.ev rfl)) fun a hF => ?_
        refine dq hF rfl (wn rfl) rfl rfl (fun w => R.move (hF.ev rfl)) fun a hF => ?_
        refine dq hF rfl (wn rfl) rfl rfl (fun w => R.lss (hF.ev rfl) (hF.ev rfl)) fun a hF => ?_
        refine dq hF rfl (wn rfl) rfl rfl (fun w => R.move (hF.ev rfl)) fun a hF => ?_
        refine hF.splitD (t := 78) rfl (fun h78 hF => ?_) (fun h78 hF => ?_)
        ·
          refine dk hF rfl (ws hF rfl rfl rfl rfl) rfl rfl fun a hF => ?_
          refine dk hF rfl (ws hF rfl rfl rfl rfl) rfl rfl fun a hF => ?_
          refine dk hF rfl (ws hF rfl rfl rfl rfl) rfl rfl fun a hF => ?_
          refine dk1 hF rfl (ws hF rfl rfl rfl rfl) rfl rfl hD fun a hF => ?_
          refine dk hF rfl (ws hF rfl rfl rfl rfl) rfl rfl fun a hF => ?_
          refine dk hF rfl (ws hF rfl rfl rfl rfl) rfl rfl fun a hF => ?_
          refine dk1 hF rfl (ws hF rfl rfl rfl rfl) rfl rfl hD fun a hF => ?_
          refine dk hF rfl (ws hF rfl rfl rfl rfl) rfl rfl fun a hF => ?_
          refine dk hF rfl (ws hF rfl rfl rfl rfl) rfl rfl fun a hF => ?_
          refine dk1 hF rfl (ws hF rfl rfl rfl rfl) rfl rfl hD fun a hF => ?_
          refine dk hF rfl (ws hF rfl rfl rfl rfl) rfl rfl fun a hF => ?_
          refine dk hF rfl (ws hF rfl rfl rfl rfl) rfl rfl fun a hF => ?_
          refine dq hF rfl (wn rfl) rfl rfl (fun w => R.pickT (hF.ev rfl) (hF.ev rfl)) fun a hF => ?_
          refine d0 ?_
          exact then_n (hK13' _ _ ⟨hF.sub ⟨rfl, rfl, rfl, (congrArg (fun z => some (Value.bool z)) (by first | exact (decide_eq_true (by omega)).symm | exact (decide_eq_false (by omega)).symm | exact decide_eq_decide.2 (by omega))), trivial⟩, hS.sel [0, 1, 2, 3] rfl rfl⟩)
        ·
          refine dq hF rfl (wy hF rfl rfl rfl) rfl rfl (fun w => R.move (hF.ev rfl)) fun a hF => ?_
          refine dq hF rfl (wy hF rfl rfl rfl) rfl rfl (fun w => R.nilCheck (hF.ev rfl)) fun a hF => ?_
          refine dq hF rfl (wy hF rfl rfl rfl) rfl rfl (fun w => R.fieldAddr (k := 50) Try.underlying81 rfl nz32 (hF.ev rfl) rfl) fun a hF => ?_
          refine dr hF rfl (wy hF rfl rfl rfl) rfl rfl hD (fun w hD => R.load one32 (hF.ev rfl) hD .h (rfl)) fun a hF => ?_
          refine dq hF rfl (wy hF rfl rfl rfl) rfl rfl (fun w => R.len Try.underlying32 (hF.ev rfl)) fun a hF => ?_
          refine dq hF rfl (wy hF rfl rfl rfl) rfl rfl (fun w => R.fieldAddr (k := 2) Try.underlying84 rfl nz3 (hF.ev rfl) rfl) fun a hF => ?_
          refine dr hF rfl (wy hF rfl rfl rfl) rfl rfl hD (fun w hD => R.load one3 (hF.ev rfl) hD (.t (.t .h)) (rfl)) fun a hF => ?_
          refine dq hF rfl (wy hF rfl rfl rfl) rfl rfl (fun w => R.subI (hF.ev rfl) (hF.ev rfl) (by omega)) fun a hF => ?_
          refine dq hF rfl (wy hF rfl rfl rfl) rfl rfl (fun w => R.fieldAddr (k := 3) Try.underlying84 rfl nz3 (hF.ev rfl) rfl) fun a hF => ?_
          refine dr hF rfl (wy hF rfl rfl rfl) rfl rfl hD (fun w hD => R.load one3 (hF.ev rfl) hD (.t (.t .h)) (rfl)) fun a hF => ?_
          refine dq hF rfl (wy hF rfl rfl rfl) rfl rfl (fun w => R.addI (hF.ev rfl) (hF.ev rfl) (by omega)) fun a hF => ?_
          refine dq hF rfl (wy hF rfl rfl rfl) rfl rfl (fun w => R.gtr (hF.ev rfl) (hF.ev rfl)) fun a hF => ?_
          refine dq hF rfl (wn rfl) rfl rfl (fun w => R.pickF (hF.ev rfl) (hF.ev rfl)) fun a hF => ?_
          refine d0 ?_
          exact then_n (hK13' _ _ ⟨hF.sub ⟨rfl, rfl, rfl, (congrArg (fun z => some (Value.bool z)) (by first | exact (decide_eq_true (by omega)).symm | exact (decide_eq_false (by omega)).symm | exact decide_eq_decide.2 (by omega))), trivial⟩, hS.sel [0, 1, 2, 3] rfl rfl⟩)
      refine wp_seq_k fun K21 hK21 => ?_
      refine wp_drawS hS [(0, 0), (1, 0), (2, 0), (3, 1), (4, 0), (5, 0), (6, 0), (7, 1), (8, 0), (9, 1), (10, 0)] mix (by kernel_rfl) (hP.then.then) fun w hS => ?_
      have hD := hS
      refine dq hF rfl (wn rfl) rfl rfl (fun w => R.move (hF.ev rfl)) fun a hF => ?_
      refine dq hF rfl (wn rfl) rfl rfl (fun w => R.nilCheck (hF.ev rfl)) fun a hF => ?_
      refine dq hF rfl (wn rfl) rfl rfl (fun w => R.fieldAddr (k := 0) Try.underlying81 rfl nz23 (hF.ev rfl) rfl) fun a hF => ?_
      refine dr hF rfl (wn rfl) rfl rfl hD (fun w hD => R.load one23 (hF.ev rfl) hD (.t .h) (rfl)) fun a hF => ?_
      refine dq hF rfl (wn rfl) rfl rfl (fun w => R.move (hF.ev rfl)) fun a hF => ?_
      refine dq hF rfl (wn rfl) rfl rfl (fun w => R.nilCheck (hF.ev rfl)) fun a hF => ?_
      refine dq hF rfl (wn rfl) rfl rfl (fun w => R.fieldAddr (k := 52) Try.underlying81 rfl nz3 (hF.ev rfl) rfl) fun a hF => ?_
      refine dr hF rfl (wn rfl) rfl rfl hD (fun w hD => R.load one3 (hF.ev rfl) hD (.t .h) (rfl)) fun a hF => ?_
      dsimp only at hF
      refine dq hF rfl (wn rfl) rfl rfl (fun w => R.indexO Try.underlying23 sz5 (hF.ev rfl) (Rd.ne (hD'.code.old hS) (by rw [length_byts]; omega)) (hF.ev rfl) (by omega) (by omega)) fun a hF => ?_
      refine dr hF rfl (wn rfl) rfl rfl hD (fun w hD => R.loadO one5 (hF.ev rfl) (hD'.code.old hD) (cb_at (i := V.p) (by omega) (by omega))) fun a hF => ?_
      refine dq hF rfl (wn rfl) rfl rfl (fun w => R.assign (hF.ev rfl)) fun a hF => ?_
      refine d0 ?_
      refine then_n (hK21 _ _ ?_)
      refine wp_seq_k fun K22 hK22 => ?_
      refine wp_region_lit ?_
      refine sv' hF (wn rfl) rfl rfl (R.move (hF.ev rfl)) fun a hF => ?_
      refine sv' hF (wn rfl) rfl rfl (R.eql (hF.ev rfl) (hF.ev rfl)) fun a hF => ?_
      refine sv' hF (wn rfl) rfl rfl (R.move (hF.ev rfl)) fun a hF => ?_
      refine hF.splitD (t := 64) rfl (fun h64 hF => ?_) (fun h64 hF => ?_)
      ·
        refine sk hF (ws hF rfl rfl rfl rfl) rfl rfl fun a hF => ?_
        refine sk hF (ws hF rfl rfl rfl rfl) rfl rfl fun a hF => ?_
        refine sv' hF (wn rfl) rfl rfl (R.pickT (hF.ev rfl) (hF.ev rfl)) fun a hF => ?_
        refine s0 ?_
        refine then_n (hK22 _ _ ?_)
        refine cT hF rfl ?_
        refine wp_region_lit ?_
        refine sv' hF (wn rfl) rfl rfl (R.move (hF.ev rfl)) fun a hF => ?_
        refine so (wn rfl) (O.call rfl rfl hF ent77 (hF.evs rfl) hS (operand_calls F { V with left := V.left - priceN (cAt F.code V.p) } _ _ (Rd.own0 hS (.t .h)) (hD'.code.old hS) hK.byt hK.len (size_2 (p := V.p) hs0 (by omega))) fun v s69 a w hR hF hS => ?_)
        obtain ⟨rfl, rfl⟩ := hR
        dsimp only at hF
        refine sv' hF (wn rfl) rfl rfl (R.addI (hF.ev rfl) (hF.ev rfl) (by omega)) fun a hF => ?_
        refine sv' hF (wn rfl) rfl rfl (R.assign (hF.ev rfl)) fun a hF => ?_
        refine s0 ?_
        exact then_n (hK11' _ _ ⟨cAt F.code (V.p + 1) + 1, hF.sub ⟨rfl, rfl, rfl, (congrArg (fun z => some (Value.int .i64 z)) (by omega)), trivial⟩, hS.sel [2, 3, 1, 4] rfl rfl, (if_pos (by omega)).symm⟩)
      ·
        refine sv' hF (wy hF rfl rfl rfl) rfl rfl (R.move (hF.ev rfl)) fun a hF => ?_
        refine sv' hF (wy hF rfl rfl rfl) rfl rfl (R.eql (hF.ev rfl) (hF.ev rfl)) fun a hF => ?_
        refine sv' hF (wn rfl) rfl rfl (R.pickF (hF.ev rfl) (hF.ev rfl)) fun a hF => ?_
        refine s0 ?_
        refine then_n (hK22 _ _ ?_)
        refine cD hF rfl (fun c3 => ?_) (fun c3 => ?_)
        ·
          refine wp_region_lit ?_
          refine sv' hF (wn rfl) rfl rfl (R.move (hF.ev rfl)) fun a hF => ?_
          refine so (wn rfl) (O.call rfl rfl hF ent77 (hF.evs rfl) hS (operand_calls F { V with left := V.left - priceN (cAt F.code V.p) } _ _ (Rd.own0 hS (.t .h)) (hD'.code.old hS) hK.byt hK.len (size_2 (p := V.p) hs0 (by omega))) fun v s69 a w hR hF hS => ?_)
          obtain ⟨rfl, rfl⟩ := hR
          dsimp only at hF
          refine sv' hF (wn rfl) rfl rfl (R.addI (hF.ev rfl) (hF.ev rfl) (by omega)) fun a hF => ?_
          refine sv' hF (wn rfl) rfl rfl (R.assign (hF.ev rfl)) fun a hF => ?_
          refine s0 ?_
          exact then_n (hK11' _ _ ⟨cAt F.code (V.p + 1) + 1, hF.sub ⟨rfl, rfl, rfl, (congrArg (fun z => some (Value.int .i64 z)) (by omega)), trivial⟩, hS.sel [2, 3, 1, 4] rfl rfl, (if_pos (by omega)).symm⟩)
        ·
          refine wp_skip ?_
          exact then_n (hK11' _ _ ⟨takesN (cAt F.code V.p), hF.sub ⟨rfl, rfl, rfl, (congrArg (fun z => some (Value.int .i64 z)) (by omega)), trivial⟩, hS.sel [1, 2, 0, 3] rfl rfl, (if_neg (by omega)).symm⟩)

end Go.Proofs.Ytlapmbkfmbkdoaa
