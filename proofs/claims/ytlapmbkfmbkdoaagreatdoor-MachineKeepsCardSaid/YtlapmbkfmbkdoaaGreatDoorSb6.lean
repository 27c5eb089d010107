/- Part 6 of what the row MachineKeeps needs, with no condition beyond each lemma's own. -/
import Derived.Test.YtlapmbkfmbkdoaaGreatDoorSb5
section
namespace Go.Proofs.YtlapmbkfmbkdoaaGreatDoor
open Go Go.Fw Go.RowKit
attribute [local irreducible] Go.Oper.wp Go.Code.wp Go.wpList Go.Fw.WL Go.Calls
theorem runR {r : Played} {v : Value} {s : Seg} (A : Option Addr) (c : Nat) (h1 : v = .tuple #[.agg (wc r.v ++ [Value.int .i64 r.gas]).toArray, .int .i64 r.e, .slice A r.asks.length c]) (h2 : OwnS s A r.asks.length c (r.asks.flatMap askc) 92 30) : RunR r v s := ⟨A, c, h1, h2⟩
theorem one_askc3 (q : Fw.Ask) : ∀ v ∈ askc q, v.oneCell' = true := by simp [askc, Value.oneCell']
theorem deep_45 {code : List Nat} {p : Nat} (h : cAt code p = 4 ∨ cAt code p = 5) : deepN code p = cAt code (p + 1) + 1 := if_pos h
theorem deep_no {code : List Nat} {p : Nat} (h : ¬ (cAt code p = 4 ∨ cAt code p = 5)) : deepN code p = takesN (cAt code p) := if_neg h
theorem tk_sum {c : Nat} (h : 6 ≤ c ∧ c ≤ 12) : takesN c = 2 := by
  have : ∀ c, c < 13 → 6 ≤ c → takesN c = 2 := by decide
  exact this c (by omega) h.1
theorem tk_is {c d : Nat} (h : c = d) : takesN c = takesN d := by rw [h]
theorem own_askL {s : Seg} {A : Option Addr} {c : Nat} {q : Fw.Ask} {b : List Fw.Ask} (h : OwnS s A (b.length + 1) c (b.flatMap askc ++ askc q) 92 30) : OwnS s A (b ++ [q]).length c ((b ++ [q]).flatMap askc) 92 30 := by
  rw [List.length_append]; exact own_ask h
theorem own_swap {g c b : Nat} {stk : List Nat} {rest : List Value} (hnc : stk.length ≤ c) (hcl : (stk.flatMap wc ++ rest).length = c * 4) (hcm : c ≤ maxLen) : OwnS [(g, Cel ((swapN stk b).flatMap wc ++ rest) 32)] (some ⟨g, 0, none⟩) stk.length c ((swapN stk b).flatMap wc) 32 4 :=
  OwnS.mk (by rw [wcs_length, swap_len]) hnc (by rw [List.length_append, wcs_length] at hcl ⊢; rw [swap_len]; exact hcl) hcm
theorem sum2_calls (c x y : Nat) (w0 : World) (hc : 6 ≤ c ∧ c ≤ 12) (hx : x < 115792089237316195423570985008687907853269984665640564039457584007913129639936) (hy : y < 115792089237316195423570985008687907853269984665640564039457584007913129639936) : Ret Tryz.prog 44 [.int .i64 ((c : Nat) : Int), wv x, wv y] w0 [] (fun v s => (∃ r ok, v = .tuple #[wv r, .bool ok] ∧ (ok = true → arithN c x y = some r) ∧ (ok = false → arithN c x y = none)) ∧ s = []) := by
  refine Ret.mono (sum_calls c x y w0 hc hx hy) ?_
  rintro v s ⟨h1, h2⟩
  refine ⟨?_, h2⟩
  unfold SumR at h1
  cases ha : arithN c x y with
  | none => rw [ha] at h1; obtain ⟨r, hr⟩ := h1; exact ⟨r, false, hr, (fun h => by cases h), (fun _ => rfl)⟩
  | some r => rw [ha] at h1; exact ⟨r, true, h1, (fun _ => rfl), (fun h => by cases h)⟩
theorem chk_dec {xs : List Nat} : Value.bool (decide (¬ ((if chkN xs then 0 else 100 : Int) = 0))) = .bool (decide (chkN xs = false)) := by cases chkN xs <;> simp
set_option maxHeartbeats 8000000 in
theorem rrun_calls (F : Fx) (w0 : World) (hpi : PlayIn F w0) : Ret Tryz.prog 12 [.slice F.cA F.code.length F.cc, .agg (callc F).toArray, .slice F.qA F.reps.length F.qc] w0 [] (RunR (playN F.cl F.code F.rep)) := by
 refine fn_start Tryz.func12 Y Tryz.ntmps12 Y [(0, .slice F.cA F.code.length F.cc), (1, .agg (callc F).toArray), (2, .slice F.qA F.reps.length F.qc)] ⟨Y, Y, Y, trivial⟩ ?_
 intro Q a hP J hR hN
 have G := St.start w0
 refine wp_seq_k fun K1 hK1=> wp_region_lit <| so (wn Y) (O.box Y Y J (J.ev Y) Y G fun b4 a w J G=> ?_)
 refine so (wn Y) (O.alloc Y Y J ze45 Y G fun b6 a w J G=> ?_)
 refine av J Y Y fun a J=> av J Y Y fun a J=> s0 <| then_n (hK1 _ _ <| wp_seq_k fun K2 hK2=> wp_seq_k fun K3 hK3=> wp_region_lit <| mv J Y Y fun a J=> so (wn Y) (O.call Y Y J ent15 (J.evs Y) G (rcheck_calls F.cA F.code.length F.cc F.code w (hpi.code.old G) Y hpi.ok.cap hpi.ok.cap2 hpi.ok.byt) fun v s28 a w hR J G=> ?_))
 obtain ⟨rfl, rfl⟩ := hR
 refine sw J Y Y Y (R.as (u := .bool (decide (chkN F.code = false))) (R.neq (p := if chkN F.code then 0 else 100) (q := 0) (J.ev Y) (J.ev Y)) (chk_dec)) fun a J=> s0 <| then_n (hK3 _ _ <| cD J Y (fun hc1=> ?_) (fun hc1=> ?_))
 ·refine wp_seq_k fun K4 hK4=> wp_region_lit <| sw J Y Y Y (R.buildStr (l := [_, _, _, _, _]) Tryz.underlying45 ze45 pl45 (J.evp Y) Y) fun a J=> so (wn Y) (O.storeW sz45 (J.ev Y) (J.ev Y) (Y) Y (by simp [Value.oneCell']) G (.t .h) (Y) fun w G=> ?_)
  refine av J Y Y fun a J=> av J Y Y fun a J=> s0 <| then_n (hK4 _ _ <| wp_ret (then_r (hR _ _ _ _ _ J (run_results Tryz.results12 (.cw J Y agg45 G (.t .h) sz45 (Y) (.t J Y (.t J Y (.nil))))) ?_)))
  rw [show playN F.cl F.code F.rep = ⟨0, 0, 100, []⟩ by simp [playN, hc1]]
  exact ⟨_, [], Y, runR none 0 (by kernel_rfl) (OwnS.nil 92 30), G.none⟩
 have hc : chkN F.code = true := by (cases h : chkN F.code; exact absurd h hc1; rfl)
 refine wp_skip <| then_n (hK2 _ _ <| wp_seq_k fun K5 hK5=> wp_seq_k fun K6 hK6=> ?_)
 have hK6' : ∀ a w, (Fr 362 [(0, .slice F.cA F.code.length F.cc), (2, .slice F.qA F.reps.length F.qc), (4, .pointer (some ⟨b4, 0, none⟩)), (6, .pointer (some ⟨b6, 0, none⟩)), (64, .bool (decide (¬ (0 ≤ F.cl.token ∧ F.cl.token < 64 ∧ F.cl.args.length ≤ 8 ∧ 0 ≤ F.cl.time ∧ F.cl.time ≤ 4611686018427387904 ∧ 1 ≤ F.cl.gas ∧ F.cl.gas ≤ 10000))))] a ∧ St w0 [] [[(b4, Cel (callc F) 35)], [(b6, Cel [.int .u64 0, .int .u64 0, .int .u64 0, .int .u64 0, .int .i64 0] 45)]] w) → K6 a w := by
  rintro a w ⟨J, G⟩
  refine hK6 _ _ ?_
  refine cD J Y (fun hc2=> ?_) (fun hc2=> ?_)
  ·refine wp_seq_k fun K7 hK7=> wp_region_lit <| sw J Y Y Y (R.buildStr (l := [_, _, _, _, _]) Tryz.underlying45 ze45 pl45 (J.evp Y) Y) fun a J=> so (wn Y) (O.storeW sz45 (J.ev Y) (J.ev Y) (Y) Y (by simp [Value.oneCell']) G (.t .h) (Y) fun w G=> ?_)
   refine av J Y Y fun a J=> av J Y Y fun a J=> s0 <| then_n (hK7 _ _ <| wp_ret (then_r (hR _ _ _ _ _ J (run_results Tryz.results12 (.cw J Y agg45 G (.t .h) sz45 (Y) (.t J Y (.t J Y (.nil))))) ?_)))
   rw [show playN F.cl F.code F.rep = ⟨0, 0, 101, []⟩ by (have hf : callOk F.cl = false := (by cases h : callOk F.cl; rfl; exact absurd (callOk_iff.1 h) hc2)); simp [playN, hc, hf]]
   exact ⟨_, [], Y, runR none 0 (by kernel_rfl) (OwnS.nil 92 30), G.none⟩
  have hcl : callOk F.cl = true := callOk_iff.2 (Classical.not_not.1 hc2)
  have hK := ok_of hpi.ok hc hcl; have hcp := callOk_tok hcl; have hlen := hK.len; obtain ⟨_, _, _, _, _, hg1, hg2⟩ := Classical.not_not.1 hc2
  refine wp_skip <| then_n (hK5 _ _ <| wp_seq_k fun K8 hK8=> wp_region_lit <| av J Y Y fun a J=> s0 <| then_n (hK8 _ _ <| wp_seq_k fun K9 hK9=> wp_region_lit <| av J Y Y fun a J=> s0 <| then_n (hK9 _ _ <| wp_seq_k fun K10 hK10=> wp_region_lit <| sw J Y Y Y (R.fieldAddr (k := 47) Tryz.underlying35 Y nz3 (J.ev Y) Y) fun a J=> sw J Y Y Y (R.as (u := .int .i64 ((F.cl.gas.toNat : Nat) : Int)) (R.load one3 (J.ev Y) G .h Y) (congrArg (Value.int .i64) (by omega))) fun a J=> av J Y Y fun a J=> s0 <| then_n (hK10 _ _ <| wp_seq_k fun K11 hK11=> wp_region_lit <| av J Y Y fun a J=> s0 <| then_n (hK11 _ _ ?_)))))
  refine wp_block ?_
  have G := G.cons0.cons0
  refine wp_loop_N (fun g a w=> ∃ (stk : List Nat) (left : Nat) (p : Nat) (asks : List Fw.Ask) (A9 : Option Addr) (c9 : Nat) (z9 : Seg) (A10 : Option Addr) (c10 : Nat) (z10 : Seg) (f : Nat), left = g ∧ Fr 362 [(0, .slice F.cA F.code.length F.cc), (2, .slice F.qA F.reps.length F.qc), (4, .pointer (some ⟨b4, 0, none⟩)), (6, .pointer (some ⟨b6, 0, none⟩)), (9, .slice A9 stk.length c9), (10, .slice A10 asks.length c10), (11, .int .i64 ((left : Nat) : Int)), (12, .int .i64 ((p : Nat) : Int))] a ∧ St w0 [] [z9, z10, [(b4, Cel (callc F) 35)], [(b6, Cel [.int .u64 0, .int .u64 0, .int .u64 0, .int .u64 0, .int .i64 0] 45)]] w ∧ (OwnS z9 A9 stk.length c9 (stk.flatMap wc) 32 4) ∧ (OwnS z10 A10 asks.length c10 (asks.flatMap askc) 92 30) ∧ (validP F.code p) ∧ (stk.length ≤ 64) ∧ (AllW stk) ∧ (asks.length + left ≤ 10000) ∧ (left < f) ∧ (Fw.runN F.cl F.code F.rep (F.cl.gas.toNat + 1) [] F.cl.gas.toNat 0 [] = Fw.runN F.cl F.code F.rep f stk left p asks)) (F.cl.gas.toNat) ?_ ?_
  ·exact ⟨[], F.cl.gas.toNat, 0, [], none, 0, [], none, 0, [], F.cl.gas.toNat + 1, Y, J.sub ⟨Y, Y, Y, Y, Y, Y, Y, Y, trivial⟩, G.sel [0, 1, 2, 3] Y Y, OwnS.nil 32 4, OwnS.nil 92 30, valid_0 hc, Nat.zero_le _, (by intro x hx; simp at hx), (by (show 0 + F.cl.gas.toNat ≤ 10000; omega)), Nat.lt_succ_self _, Y⟩
  rintro KL1 g a w ⟨stk, left, p, asks, A9, c9, z9, A10, c10, z10, f, hg1, J, G, hO9, hO10, hp, hl, hW, hsum, hf, hrun⟩ hKL1
  obtain ⟨f', rfl⟩ : ∃ f', f = f' + 1 := ⟨f - 1, by omega⟩
  refine wp_block <| wp_seq_k fun K12 hK12=> wp_seq_k fun K13 hK13=> wp_region_lit <| mv J Y Y fun a J=> mv J Y Y fun a J=> sw J Y Y Y (R.len Tryz.underlying22 (J.ev Y)) fun a J=> sw J Y Y Y (R.geq (J.ev Y) (J.ev Y)) fun a J=> s0 <| then_n (hK13 _ _ <| cD J Y (fun c3=> ?_) (fun c3=> ?_))
  ·have hpl := play_err hc hcl (by decide) (hrun.trans (runN_err (e := 106) (stp_end (by omega))))
   refine wp_seq_k fun K14 hK14=> wp_region_lit <| sw J Y Y Y (R.buildStr (l := [_, _, _, _, _]) Tryz.underlying45 ze45 pl45 (J.evp Y) Y) fun a J=> mv J Y Y fun a J=> so (wn Y) (O.storeW sz45 (J.ev Y) (J.ev Y) (Y) Y (by simp [Value.oneCell']) G (.t (.t (.t .h))) (Y) fun w G=> ?_)
   refine av J Y Y fun a J=> av J Y Y fun a J=> s0 <| then_n (hK14 _ _ <| wp_ret (then_r (blk_r (then_r (blk_r (hR _ _ _ _ _ J (run_results Tryz.results12 (.cw J Y agg45 G (.t (.t (.t .h))) sz45 (Y) (.t J Y (.t J Y (.nil))))) ?_))))))
   rw [hpl]
   exact ⟨_, z10, Y, runR A10 c10 (by kernel_rfl) hO10, G.one (.t .h)⟩
  have hpp : p < F.code.length := by omega
  have hs := valid_size hpp hp; have h28 := size_28 hs; have hpr := priceN_pos h28; have hsl := (sizeN_le F.code p).resolve_left hs; have hsm := take_small _ h28; have hcb := cAt_lt hpi.ok.byt p; have hcb1 := cAt_lt hpi.ok.byt (p + 1); have hdl : takesN (cAt F.code p) ≤ deepN F.code p := deep_le
  refine wp_skip <| then_n (hK12 _ _ <| wp_seq_k fun K15 hK15=> wp_region_lit <| mv J Y Y fun a J=> mv J Y Y fun a J=> sw J Y Y Y (R.indexO Tryz.underlying22 sz5 (J.ev Y) (Rd.ne hpi.code (by rw [length_byts]; omega)) (J.ev Y) (by omega) (by omega)) fun a J=> sw J Y Y Y (R.loadO one5 (J.ev Y) (hpi.code.old G) (cb_at (i := p) (by omega) (by omega))) fun a J=> sw J Y Y Y (R.convI Tryz.underlying5 Tryz.underlying3 (J.ev Y) (by omega)) fun a J=> av J Y Y fun a J=> s0 <| then_n (hK15 _ _ <| wp_seq_k fun K16 hK16=> wp_region_lit <| mv J Y Y fun a J=> mv J Y Y fun a J=> so (wn Y) (O.call Y Y J ent40 (J.evs Y) G (rsize_calls F.cA F.code.length F.cc F.code p w (hpi.code.old G) Y hpi.ok.cap hpi.ok.cap2 hpi.ok.byt (by omega)) fun v s81 a w hR J G=> ?_)))
  obtain ⟨rfl, rfl⟩ := hR
  refine av J Y Y fun a J=> s0 <| then_n (hK16 _ _ <| wp_seq_k fun K17 hK17=> wp_seq_k fun K18 hK18=> wp_region_lit <| mv J Y Y fun a J=> so (wn Y) (O.call Y Y J ent41 (J.evs Y) G (price_calls (cAt F.code p) w h28) fun v s83 a w hR J G=> ?_))
  obtain ⟨rfl, rfl⟩ := hR
  refine mv J Y Y fun a J=> sw J Y Y Y (R.gtr (J.ev Y) (J.ev Y)) fun a J=> s0 <| then_n (hK18 _ _ <| cD J Y (fun c4=> ?_) (fun c4=> ?_))
  ·have hpl := play_err hc hcl (by decide) (hrun.trans (runN_err (e := 102) (stp_gas hpp (by omega))))
   refine wp_seq_k fun K19 hK19=> wp_region_lit <| sw J Y Y Y (R.buildStr (l := [_, _, _, _, _]) Tryz.underlying45 ze45 pl45 (J.evp Y) Y) fun a J=> mv J Y Y fun a J=> so (wn Y) (O.storeW sz45 (J.ev Y) (J.ev Y) (Y) Y (by simp [Value.oneCell']) G (.t (.t (.t (.t (.t .h))))) (Y) fun w G=> ?_)
   refine av J Y Y fun a J=> av J Y Y fun a J=> s0 <| then_n (hK19 _ _ <| wp_ret (then_r (blk_r (then_r (blk_r (hR _ _ _ _ _ J (run_results Tryz.results12 (.cw J Y agg45 G (.t (.t (.t (.t (.t .h))))) sz45 (Y) (.t J Y (.t J Y (.nil))))) ?_))))))
   rw [hpl]
   exact ⟨_, z10, Y, runR A10 c10 (by kernel_rfl) hO10, G.one (.t (.t (.t .h)))⟩
  have h2 : ¬ left < priceN (cAt F.code p) := by omega
  refine wp_skip <| then_n (hK17 _ _ <| wp_seq_k fun K20 hK20=> wp_region_lit <| mv J Y Y fun a J=> mv J Y Y fun a J=> so (wn Y) (O.call Y Y J ent41 (J.evs Y) G (price_calls (cAt F.code p) w h28) fun v s90 a w hR J G=> ?_))
  obtain ⟨rfl, rfl⟩ := hR
  refine sw J Y Y Y (R.as (u := .int .i64 ((left - priceN (cAt F.code p) : Nat) : Int)) (R.subI (J.ev Y) (J.ev Y) (by omega)) (congrArg (Value.int .i64) (by omega))) fun a J=> av J Y Y fun a J=> s0 <| then_n (hK20 _ _ <| wp_seq_k fun K21 hK21=> wp_region_lit <| av J Y Y fun a J=> s0 <| then_n (hK21 _ _ <| wp_seq_k fun K22 hK22=> ?_))
  have hK22' : ∀ a w, (∃ (ob : Nat), Fr 362 [(0, .slice F.cA F.code.length F.cc), (2, .slice F.qA F.reps.length F.qc), (4, .pointer (some ⟨b4, 0, none⟩)), (6, .pointer (some ⟨b6, 0, none⟩)), (9, .slice A9 stk.length c9), (10, .slice A10 asks.length c10), (11, .int .i64 ((left - priceN (cAt F.code p) : Nat) : Int)), (12, .int .i64 ((p : Nat) : Int)), (13, .int .i64 ((cAt F.code p : Nat) : Int)), (14, .int .i64 ((sizeN F.code p : Nat) : Int)), (15, .int .i64 ((ob : Nat) : Int))] a ∧ St w0 [] [z9, z10, [(b4, Cel (callc F) 35)], [(b6, Cel [.int .u64 0, .int .u64 0, .int .u64 0, .int .u64 0, .int .i64 0] 45)]] w ∧ (sizeN F.code p = 2 → ob = cAt F.code (p + 1)) ∧ (ob ≤ 255)) → K22 a w := by
   rintro a w ⟨ob, J, G, hob, hob2⟩
   refine hK22 _ _ ?_
   refine wp_seq_k fun K23 hK23=> wp_region_lit <| mv J Y Y fun a J=> so (wn Y) (O.call Y Y J ent42 (J.evs Y) G (wants_calls (cAt F.code p) w h28) fun v s101 a w hR J G=> ?_)
   obtain ⟨rfl, rfl⟩ := hR
   refine av J Y Y fun a J=> s0 <| then_n (hK23 _ _ <| wp_seq_k fun K24 hK24=> ?_)
   have hK24' : ∀ a w, (Fr 362 [(0, .slice F.cA F.code.length F.cc), (2, .slice F.qA F.reps.length F.qc), (4, .pointer (some ⟨b4, 0, none⟩)), (6, .pointer (some ⟨b6, 0, none⟩)), (9, .slice A9 stk.length c9), (10, .slice A10 asks.length c10), (11, .int .i64 ((left - priceN (cAt F.code p) : Nat) : Int)), (12, .int .i64 ((p : Nat) : Int)), (13, .int .i64 ((cAt F.code p : Nat) : Int)), (14, .int .i64 ((sizeN F.code p : Nat) : Int)), (15, .int .i64 ((ob : Nat) : Int)), (16, .int .i64 ((deepN F.code p : Nat) : Int))] a ∧ St w0 [] [z9, z10, [(b4, Cel (callc F) 35)], [(b6, Cel [.int .u64 0, .int .u64 0, .int .u64 0, .int .u64 0, .int .i64 0] 45)]] w) → K24 a w := by
    rintro a w ⟨J, G⟩
    refine hK24 _ _ ?_
    refine wp_seq_k fun K25 hK25=> wp_seq_k fun K26 hK26=> ?_
    have hK26' : ∀ a w, (Fr 362 [(0, .slice F.cA F.code.length F.cc), (2, .slice F.qA F.reps.length F.qc), (4, .pointer (some ⟨b4, 0, none⟩)), (6, .pointer (some ⟨b6, 0, none⟩)), (9, .slice A9 stk.length c9), (10, .slice A10 asks.length c10), (11, .int .i64 ((left - priceN (cAt F.code p) : Nat) : Int)), (12, .int .i64 ((p : Nat) : Int)), (13, .int .i64 ((cAt F.code p : Nat) : Int)), (14, .int .i64 ((sizeN F.code p : Nat) : Int)), (15, .int .i64 ((ob : Nat) : Int)), (124, .bool (decide (stk.length < deepN F.code p ∨ 64 < stk.length - takesN (cAt F.code p) + laysN (cAt F.code p))))] a ∧ St w0 [] [z9, z10, [(b4, Cel (callc F) 35)], [(b6, Cel [.int .u64 0, .int .u64 0, .int .u64 0, .int .u64 0, .int .i64 0] 45)]] w) → K26 a w := by
     rintro a w ⟨J, G⟩
     refine hK26 _ _ ?_
     refine cD J Y (fun c7=> ?_) (fun c7=> ?_)
     ·have hpl := play_err hc hcl (by decide) (hrun.trans (runN_err (e := 103) (stp_stack hpp h2 c7)))
      refine wp_seq_k fun K27 hK27=> wp_region_lit <| sw J Y Y Y (R.buildStr (l := [_, _, _, _, _]) Tryz.underlying45 ze45 pl45 (J.evp Y) Y) fun a J=> mv J Y Y fun a J=> so (wn Y) (O.storeW sz45 (J.ev Y) (J.ev Y) (Y) Y (by simp [Value.oneCell']) G (.t (.t (.t .h))) (Y) fun w G=> ?_)
      refine av J Y Y fun a J=> av J Y Y fun a J=> s0 <| then_n (hK27 _ _ <| wp_ret (then_r (blk_r (then_r (blk_r (hR _ _ _ _ _ J (run_results Tryz.results12 (.cw J Y agg45 G (.t (.t (.t .h))) sz45 (Y) (.t J Y (.t J Y (.nil))))) ?_))))))
      rw [hpl]
      exact ⟨_, z10, Y, runR A10 c10 (by kernel_rfl) hO10, G.one (.t .h)⟩
     have hdo : DoAt F stk left p asks := do_at hpp h2 c7
     refine wp_skip <| then_n (hK25 _ _ <| wp_seq_k fun K28 hK28=> wp_region_lit <| mv J Y Y fun a J=> sw J Y Y Y (R.len Tryz.underlying33 (J.ev Y)) fun a J=> mv J Y Y fun a J=> so (wn Y) (O.call Y Y J ent42 (J.evs Y) G (wants_calls (cAt F.code p) w h28) fun v s130 a w hR J G=> ?_))
     obtain ⟨rfl, rfl⟩ := hR
     refine sw J Y Y Y (R.as (u := .int .i64 ((topN F stk p : Nat) : Int)) (R.subI (J.ev Y) (J.ev Y) (by omega)) (congrArg (Value.int .i64) (by unfold topN; omega))) fun a J=> av J Y Y fun a J=> s0 <| then_n (hK28 _ _ <| wp_seq_k fun K29 hK29=> wp_region_lit ?_)
     have htop : topN F stk p = stk.length - takesN (cAt F.code p) := rfl
     refine so (wn Y) (O.buildSlice (l := []) Y Y J Tryz.underlying33 inf32 Y Y (J.evp Y) (by decide) Y G fun b132 a w J G=> ?_)
     refine mv J Y Y fun a J=> mv J Y Y fun a J=> sw J Y Y Y (R.sliceLo (p := topN F stk p) Tryz.underlying33 (J.ev Y) (J.ev Y) (by unfold topN; omega) sz32) fun a J=> so (wn Y) (O.appendO Y Y J Tryz.underlying33 inf32 Y Y (by decide) (J.ev Y) (J.ev Y) G (own_nil31 b132) (fun _=> .h) (rd_drop (hO9.rd G (.t (.t .h))) hO9.2.1 (topN F stk p)) (by rw [wcs_length, List.length_drop]) (wcs_one _) (by unfold maxLen; omega) (by omega) fun A136 c136 s136 a w hO136 J G=> ?_)
     rw [Nat.zero_add] at J hO136; rw [List.flatMap_nil, List.nil_append] at hO136; have hvl : (stk.drop (topN F stk p)).length = takesN (cAt F.code p) := by (rw [List.length_drop]; omega)
     refine av J Y Y fun a J=> s0 <| then_n (hK29 _ _ <| wp_seq_k fun K30 hK30=> wp_region_lit <| mv J Y Y fun a J=> mv J Y Y fun a J=> aI J Y Y Y (by omega) fun a J=> av J Y Y fun a J=> s0 <| then_n (hK30 _ _ <| wp_seq_k fun K31 hK31=> wp_region_lit <| av J Y Y fun a J=> s0 <| then_n (hK31 _ _ <| wp_seq_k fun K32 hK32=> ?_)))
     have hK32' : ∀ a w, (∃ (stk2 : List Nat) (on : List Nat) (q : Nat) (asks2 : List Fw.Ask) (A20 : Option Addr) (c20 : Nat) (z20 : Seg) (A1 : Option Addr) (c1 : Nat) (z1 : Seg) (z2 : Seg), Fr 362 [(0, .slice F.cA F.code.length F.cc), (2, .slice F.qA F.reps.length F.qc), (4, .pointer (some ⟨b4, 0, none⟩)), (6, .pointer (some ⟨b6, 0, none⟩)), (9, .slice A9 stk.length c9), (10, .slice A1 asks2.length c1), (11, .int .i64 ((left - priceN (cAt F.code p) : Nat) : Int)), (13, .int .i64 ((cAt F.code p : Nat) : Int)), (17, .int .i64 ((topN F stk p : Nat) : Int)), (19, .int .i64 ((q : Nat) : Int)), (20, .slice A20 on.length c20)] a ∧ St w0 [] [z2, z1, z20, [(b4, Cel (callc F) 35)], [(b6, Cel [.int .u64 0, .int .u64 0, .int .u64 0, .int .u64 0, .int .i64 0] 45)]] w ∧ (OwnS z2 A9 stk.length c9 (stk2.flatMap wc) 32 4) ∧ (OwnS z1 A1 asks2.length c1 (asks2.flatMap askc) 92 30) ∧ (OwnS z20 A20 on.length c20 (on.flatMap wc) 32 4) ∧ (Mid F stk stk2 on left p q asks asks2)) → K32 a w := by
      rintro a w ⟨stk2, on, q, asks2, A20, c20, z20, A1, c1, z1, z2, J, G, hO92, hO1, hO20, hmid⟩
      refine hK32 _ _ ?_
      refine wp_seq_k fun K33 hK33=> ?_
      have hK33' : ∀ a w, (∃ (on2 : List Nat) (A21 : Option Addr) (c21 : Nat) (z21 : Seg), Fr 362 [(0, .slice F.cA F.code.length F.cc), (2, .slice F.qA F.reps.length F.qc), (4, .pointer (some ⟨b4, 0, none⟩)), (6, .pointer (some ⟨b6, 0, none⟩)), (9, .slice A9 stk.length c9), (10, .slice A1 asks2.length c1), (11, .int .i64 ((left - priceN (cAt F.code p) : Nat) : Int)), (17, .int .i64 ((topN F stk p : Nat) : Int)), (19, .int .i64 ((q : Nat) : Int)), (20, .slice A21 on2.length c21)] a ∧ St w0 [] [z2, z1, z21, [(b4, Cel (callc F) 35)], [(b6, Cel [.int .u64 0, .int .u64 0, .int .u64 0, .int .u64 0, .int .i64 0] 45)]] w ∧ (OwnS z21 A21 on2.length c21 (on2.flatMap wc) 32 4) ∧ (stp F.cl F.code F.rep stk left p asks = .more (stk2.take (topN F stk p) ++ on2) (left - priceN (cAt F.code p)) q asks2)) → K33 a w := by
       rintro a w ⟨on2, A21, c21, z21, J, G, hO21, hst2⟩
       refine hK33 _ _ ?_
       have htp : topN F stk p ≤ stk.length := Nat.sub_le _ _; have h92 := hO92.2.1; have hlk := hO92.1; rw [wcs_length] at hlk
       obtain ⟨kv, kl, kW, klt, ksum⟩ := stp_more hK hp hl hW (by omega) hst2; have hl2 := kl; rw [List.length_append, List.length_take] at hl2
       refine wp_seq_k fun K34 hK34=> wp_region_lit <| so (wn Y) (O.buildSlice (l := []) Y Y J Tryz.underlying33 inf32 Y Y (J.evp Y) (by decide) Y G fun b354 a w J G=> ?_)
       refine mv J Y Y fun a J=> mv J Y Y fun a J=> sw J Y Y Y (R.as (u := .slice A9 (topN F stk p) c9) (R.sliceHi Tryz.underlying33 (J.ev Y) (J.ev Y) (by omega) (by omega) _ sz32) (Y)) fun a J=> so (wn Y) (O.appendO Y Y J Tryz.underlying33 inf32 Y Y (by decide) (J.ev Y) (J.ev Y) G (own_nil31 b354) (fun _=> .h) (wcs_take stk2 (topN F stk p) ▸ (hO92.rd G (.t .h)).sub (topN F stk p * 4)) (by rw [wcs_length, List.length_take]; omega) (wcs_one _) (by unfold maxLen; omega) (by omega) fun A358 c358 s358 a w hO358 J G=> ?_)
       rw [Nat.zero_add] at J hO358; rw [List.flatMap_nil, List.nil_append] at hO358
       refine mv J Y Y fun a J=> so (wn Y) (O.appendO Y Y J Tryz.underlying33 inf32 Y Y (by decide) (J.ev Y) (J.ev Y) G hO358 (fun _=> .h) (hO21.rd G (.t (.t (.t .h)))) (by rw [wcs_length]) (wcs_one _) (by unfold maxLen; omega) (by omega) fun A360 c360 s360 a w hO360 J G=> ?_)
       rw [← List.flatMap_append] at hO360
       refine av J Y Y fun a J=> s0 <| then_n (hK34 _ _ <| wp_region_lit <| mv J Y Y fun a J=> av J Y Y fun a J=> s0 <| blk_n <| then_n (hKL1 (left - priceN (cAt F.code p)) _ _ ?_ ?_))
       ·omega
       exact ⟨stk2.take (topN F stk p) ++ on2, left - priceN (cAt F.code p), q, asks2, A360, c360, s360, A1, c1, z1, f', Y, J.sub ⟨Y, Y, Y, Y, (congrArg (fun z => some (Value.slice A360 z c360)) (by rw [List.length_append, List.length_take]; omega)), Y, Y, Y, trivial⟩, G.sel [0, 2, 4, 5] Y Y, (by rw [List.length_append, List.length_take, Nat.min_eq_left (by omega)]; exact hO360), hO1, kv, kl, kW, by omega, by omega, hrun.trans (runN_more hst2)⟩
      refine wp_seq_k fun K35 hK35=> wp_region_lit <| mv J Y Y fun a J=> sw J Y Y Y (R.geq (J.ev Y) (J.ev Y)) fun a J=> s0 <| then_n (hK35 _ _ <| cD J Y (fun c33=> ?_) (fun c33=> ?_))
      ·have hal := (mid_high hmid (by omega)).1
       refine wp_seq_k fun K36 hK36=> wp_region_lit <| mv J Y Y fun a J=> mv J Y Y fun a J=> sw J Y Y Y (R.len Tryz.underlying41 (J.ev Y)) fun a J=> sw J Y Y Y (R.as (u := .int .i64 ((asks.length : Nat) : Int)) (R.subI (J.ev Y) (J.ev Y) (by omega)) (congrArg (Value.int .i64) (by have := (mid_high hmid (by omega)).1; omega))) fun a J=> so (wn Y) (O.call Y Y J ent50 (J.evs Y) G (answer_calls F.qA F.qc asks.length F.reps w (hpi.reps.old G)) fun v s337 a w hR J G=> ?_)
       obtain ⟨rfl, rfl⟩ := hR
       refine so (wn Y) (O.alloc Y Y J ze97 Y G fun b26 a w J G=> ?_)
       refine so (wn Y) (O.storeW sz97 (J.ev Y) (J.ev Y) (Y) Y (one_repc _) G .h (Y) fun w G=> ?_)
       refine s0 <| then_n (hK36 _ _ <| wp_seq_k fun K37 hK37=> wp_seq_k fun K38 hK38=> wp_region_lit <| sw J Y Y Y (R.fieldAddr (k := 4) Tryz.underlying97 Y nz23 (J.ev Y) Y) fun a J=> sw J Y Y Y (R.load one23 (J.ev Y) G .h (Y)) fun a J=> sw J Y Y Y (R.neq (J.ev Y) (J.ev Y)) fun a J=> s0 <| then_n (hK38 _ _ <| cD J Y (fun c34=> ?_) (fun c34=> ?_)))
       ·have hpl := play_err hc hcl c34 (hrun.trans (runN_err (mid_err hmid (by omega) c34)))
        refine wp_seq_k fun K39 hK39=> wp_drawG G (G.sel [0] Y Y) [(0, 0), (1, 0), (2, 1), (3, 0), (4, 2), (5, 0), (6, 0)] mix (by kernel_rfl) (hP.block.then.block.then.then.then) fun w G hD=> ?_
        refine dv J Y Y Y Y (fun w=> R.buildStr (l := [_, _, _, _, _]) Tryz.underlying45 ze45 pl45 (J.evp Y) Y) fun a J=> dv J Y Y Y Y (fun w=> R.fieldAddr (k := 4) Tryz.underlying97 Y nz23 (J.ev Y) Y) fun a J=> ds J Y Y Y Y hD (fun w hD=> R.load one23 (J.ev Y) hD .h (Y)) fun a J=> ?_
        refine dm J Y Y Y fun a J=> dl Y (wn Y) (O.storeW sz45 (J.ev Y) (J.ev Y) (Y) Y (by simp [Value.oneCell']) G (.t (.t (.t (.t (.t (.t .h)))))) (Y) fun w G=> ⟨fun hD=> G.sel [0] Y Y, ?_⟩)
        have hD := G.sel [0] rfl rfl
        refine da J Y Y Y fun a J=> da J Y Y Y fun a J=> d0 <| then_n (hK39 _ _ <| wp_ret (then_r (then_r (blk_r (then_r (blk_r (hR _ _ _ _ _ J (run_results Tryz.results12 (.cw J Y agg45 G (.t (.t (.t (.t (.t (.t .h)))))) sz45 (Y) (.t J Y (.t J Y (.nil))))) ?_)))))))
        rw [hpl]
        exact ⟨_, z1, Y, runR A1 c1 (by kernel_rfl) hO1, G.one (.t (.t (.t .h)))⟩
       have hre : (F.rep asks.length).2 = 0 := Classical.not_not.1 c34
       refine wp_skip <| then_n (hK37 _ _ <| wp_seq_k fun K40 hK40=> wp_region_lit <| mv J Y Y fun a J=> eL J Y Y Y fun a J=> mv J Y Y fun a J=> J.splitD (t := 347) Y (fun h347 J=> ?_) (fun h347 J=> ?_))
       ·refine kz J Y Y Y Y Y Y fun a J=> kz J Y Y Y Y Y Y fun a J=> pT J Y Y Y fun a J=> s0 <| then_n (hK40 _ _ <| cT J Y <| wp_region_lit <| sw J Y Y Y (R.fieldAddr (k := 0) Tryz.underlying97 Y nz32 (J.ev Y) Y) fun a J=> sw J Y Y Y (R.loadA (cs := [_, _, _, _]) agg32 (J.ev Y) G .h sz32 Y (getAt Y)) fun a J=> so (wn Y) (O.buildSlice (l := [_, _, _, _]) Y Y J Tryz.underlying33 inf32 Y Y (J.evp Y) (by decide) Y G fun b353 a w J G=> ?_))
        refine av J Y Y fun a J=> s0 ?_
        exact then_n (hK33' _ _ ⟨[(F.rep asks.length).1], _, _, _, J.sub ⟨Y, Y, Y, Y, Y, Y, Y, Y, Y, Y, trivial⟩, G.sel [3, 4, 0, 6, 7] Y Y, own_w1 b353 _, mid_on hmid (by omega) hre⟩)
       refine my J Y Y Y Y fun a J=> sv' J (wy J Y Y Y) Y Y (R.eql (J.ev Y) (J.ev Y)) fun a J=> pF J Y Y Y fun a J=> s0 <| then_n (hK40 _ _ <| cD J Y (fun c35=> ?_) (fun c35=> ?_))
       ·refine wp_region_lit <| sw J Y Y Y (R.fieldAddr (k := 0) Tryz.underlying97 Y nz32 (J.ev Y) Y) fun a J=> sw J Y Y Y (R.loadA (cs := [_, _, _, _]) agg32 (J.ev Y) G .h sz32 Y (getAt Y)) fun a J=> so (wn Y) (O.buildSlice (l := [_, _, _, _]) Y Y J Tryz.underlying33 inf32 Y Y (J.evp Y) (by decide) Y G fun b353 a w J G=> ?_)
        refine av J Y Y fun a J=> s0 ?_
        exact then_n (hK33' _ _ ⟨[(F.rep asks.length).1], _, _, _, J.sub ⟨Y, Y, Y, Y, Y, Y, Y, Y, Y, Y, trivial⟩, G.sel [3, 4, 0, 6, 7] Y Y, own_w1 b353 _, mid_on hmid (by omega) hre⟩)
       refine wp_skip ?_
       exact then_n (hK33' _ _ ⟨on, _, _, _, J.sub ⟨Y, Y, Y, Y, Y, Y, Y, Y, Y, Y, trivial⟩, G.sel [2, 3, 4, 5, 6] Y Y, hO20, mid_off hmid (by omega) (by omega) hre⟩)
      refine wp_skip ?_
      exact then_n (hK33' _ _ ⟨on, _, _, _, J.sub ⟨Y, Y, Y, Y, Y, Y, Y, Y, Y, Y, trivial⟩, G.sel [0, 1, 2, 3, 4] Y Y, hO20, mid_low hmid (by omega)⟩)
     refine wp_seq_k fun K41 hK41=> wp_region_lit <| mv J Y Y fun a J=> s0 <| then_n (hK41 _ _ <| wp_block <| wp_seq_k fun K42 hK42=> wp_region_lit <| eL J Y Y Y fun a J=> av J Y Y fun a J=> s0 <| then_n (hK42 _ _ <| cD J Y (fun hC0=> ?_) (fun hC0=> ?_)))
     ·have hpl := play_err hc hcl (by decide) (hrun.trans (runN_err (e := 105) (stop_0 hdo (by omega))))
      refine wp_seq_k fun K43 hK43=> wp_region_lit <| sw J Y Y Y (R.buildStr (l := [_, _, _, _, _]) Tryz.underlying45 ze45 pl45 (J.evp Y) Y) fun a J=> mv J Y Y fun a J=> so (wn Y) (O.storeW sz45 (J.ev Y) (J.ev Y) (Y) Y (by simp [Value.oneCell']) G (.t (.t (.t (.t (.t .h))))) (Y) fun w G=> ?_)
      refine av J Y Y fun a J=> av J Y Y fun a J=> s0 <| then_n (hK43 _ _ <| wp_ret (blk_r (then_r (blk_r (then_r (blk_r (hR _ _ _ _ _ J (run_results Tryz.results12 (.cw J Y agg45 G (.t (.t (.t (.t (.t .h))))) sz45 (Y) (.t J Y (.t J Y (.nil))))) ?_)))))))
      rw [hpl]
      exact ⟨_, z10, Y, runR A10 c10 (by kernel_rfl) hO10, G.one (.t (.t (.t .h)))⟩
     refine wp_seq_k fun K44 hK44=> wp_region_lit <| eL J Y Y Y fun a J=> av J Y Y fun a J=> s0 <| then_n (hK44 _ _ <| cD J Y (fun hC1=> ?_) (fun hC1=> ?_))
     ·have htk : takesN (cAt F.code p) = takesN 1 := tk_is (by omega); rw [show takesN 1 = 1 from rfl] at htk
      have hpl := play_fin hc hcl (hrun.trans (runN_fin (done_1 hdo (by omega))))
      refine wp_seq_k fun K45 hK45=> wp_drawS G [(0, 0), (1, 0), (2, 1), (3, 0), (4, 1), (5, 0), (6, 0), (7, 0), (8, 0), (9, 3), (10, 0), (11, 0)] mix (by kernel_rfl) (hP.block.then.block.then.block.then) fun w G=> ?_
      have hD := G
      refine dm J Y Y Y fun a J=> dv J Y Y Y Y (fun w=> R.indexO Tryz.underlying33 sz32 (J.ev Y) (Rd.ne (hO136.rd G .h) (by rw [wcs_length, List.length_drop]; omega)) (J.ev Y) (by omega) (by omega)) fun a J=> ds J Y Y Y Y hD (fun w hD=> R.loadAO (cs := wc (uN F stk p 0)) agg32 (J.ev Y) (hO136.rd hD .h) sz32 Y (Nat.succ_pos _) (wcs_at (k := 0) (by omega) (by omega))) fun a J=> ?_
      refine dv J Y Y Y Y (fun w=> R.fieldAddr (k := 47) Tryz.underlying35 Y nz3 (J.ev Y) Y) fun a J=> ds J Y Y Y Y hD (fun w hD=> R.load one3 (J.ev Y) hD (.t (.t (.t (.t .h)))) (Y)) fun a J=> ?_
      refine dm J Y Y Y fun a J=> dv J Y Y Y Y (fun w=> R.subI (J.ev Y) (J.ev Y) (by omega)) fun a J=> dv J Y Y Y Y (fun w=> R.buildStr (l := [_, _, _, _, _]) Tryz.underlying45 ze45 pl45 (J.evp Y) Y) fun a J=> dm J Y Y Y fun a J=> dw Y (wn Y) (O.storeW sz45 (J.ev Y) (J.ev Y) (Y) Y (by simp [Value.oneCell']) G (.t (.t (.t (.t (.t .h))))) (Y) fun w G=> ?_)
      refine da J Y Y Y fun a J=> da J Y Y Y fun a J=> d0 <| then_n (hK45 _ _ <| wp_ret (blk_r (then_r (blk_r (then_r (blk_r (hR _ _ _ _ _ J (run_results Tryz.results12 (.cw J Y agg45 G (.t (.t (.t (.t (.t .h))))) sz45 (Y) (.t J Y (.t J Y (.nil))))) ?_)))))))
      rw [hpl]
      exact ⟨_, z10, Y, runR A10 c10 (by kernel_rfl) hO10, G.one (.t (.t (.t .h)))⟩
     refine wp_seq_k fun K46 hK46=> wp_region_lit <| eL J Y Y Y fun a J=> av J Y Y fun a J=> s0 <| then_n (hK46 _ _ <| cD J Y (fun hC2=> ?_) (fun hC2=> ?_))
     ·have hsp := sz_push hs (by omega)
      refine wp_seq_k fun K47 hK47=> wp_region_lit <| mv J Y Y fun a J=> sw J Y Y Y (R.as (u := .int .i64 ((cAt F.code (p + 1) : Nat) : Int)) (R.subI (J.ev Y) (J.ev Y) (by omega)) (congrArg (Value.int .i64) (by omega))) fun a J=> so (wn Y) (O.makeSlice Y Y J Tryz.underlying61 inf3 Y Y (J.ev Y) (J.ev Y) (by omega) (by omega) (by omega) (by omega) G fun b166 a w J G=> ?_)
      rw [show zeros [Value.int .i64 0] (Int.toNat ((cAt F.code (p + 1) : Nat) : Int)) = mki (cAt F.code (p + 1)) (fun i => cAt F.code (p + 2 + i)) 0 from mki_0 _ _] at G
      refine av J Y Y fun a J=> s0 <| then_n (hK47 _ _ <| wp_seq_k fun K48 hK48=> wp_seq_k fun K49 hK49=> wp_region_lit <| av J Y Y fun a J=> s0 <| then_n (hK49 _ _ <| wp_block <| wp_loop_N (fun g a w=> ∃ (i : Nat), cAt F.code (p + 1) - i = g ∧ Fr 362 [(0, .slice F.cA F.code.length F.cc), (2, .slice F.qA F.reps.length F.qc), (4, .pointer (some ⟨b4, 0, none⟩)), (6, .pointer (some ⟨b6, 0, none⟩)), (9, .slice A9 stk.length c9), (10, .slice A10 asks.length c10), (11, .int .i64 ((left - priceN (cAt F.code p) : Nat) : Int)), (12, .int .i64 ((p : Nat) : Int)), (13, .int .i64 ((cAt F.code p : Nat) : Int)), (14, .int .i64 ((sizeN F.code p : Nat) : Int)), (15, .int .i64 ((ob : Nat) : Int)), (17, .int .i64 ((topN F stk p : Nat) : Int)), (19, .int .i64 ((p + sizeN F.code p : Nat) : Int)), (20, .slice none 0 0), (21, .slice (some ⟨b166, 0, none⟩) (cAt F.code (p + 1)) (cAt F.code (p + 1))), (22, .int .i64 ((i : Nat) : Int))] a ∧ St w0 [] [[(b166, Cel (mki (cAt F.code (p + 1)) (fun i=> cAt F.code (p + 2 + i)) i) 3)], z9, z10, [(b4, Cel (callc F) 35)], [(b6, Cel [.int .u64 0, .int .u64 0, .int .u64 0, .int .u64 0, .int .i64 0] 45)]] w ∧ (i ≤ cAt F.code (p + 1))) (cAt F.code (p + 1) - 0) ?_ ?_))
      ·exact ⟨0, Y, J.sub ⟨Y, Y, Y, Y, Y, Y, Y, Y, Y, Y, Y, Y, Y, Y, Y, Y, trivial⟩, G.sel [0, 3, 4, 5, 6] Y Y, Nat.zero_le _⟩
      rintro KL2 g a w ⟨i, hg2, J, G, hi⟩ hKL2
      have hcx := cAt_lt hpi.ok.byt (p + 2 + i)
      refine wp_seq_k fun K50 hK50=> wp_seq_k fun K51 hK51=> wp_region_lit <| mv J Y Y fun a J=> mv J Y Y fun a J=> sw J Y Y Y (R.len Tryz.underlying61 (J.ev Y)) fun a J=> lS J Y Y Y fun a J=> s0 <| then_n (hK51 _ _ <| cD J Y (fun cL=> ?_) (fun cL=> ?_))
      ·refine wp_skip <| then_n (hK50 _ _ <| wp_seq_k fun K52 hK52=> wp_block <| wp_region_lit <| mv J Y Y fun a J=> mv J Y Y fun a J=> mv J Y Y fun a J=> mv J Y Y fun a J=> aI J Y Y Y (by omega) fun a J=> mv J Y Y fun a J=> aI J Y Y Y (by omega) fun a J=> sw J Y Y Y (R.indexO Tryz.underlying22 sz5 (J.ev Y) (Rd.ne hpi.code (by rw [length_byts]; omega)) (J.ev Y) (by omega) (by omega)) fun a J=> sw J Y Y Y (R.loadO one5 (J.ev Y) (hpi.code.old G) (cb_at (i := p + 2 + i) (by omega) (by omega))) fun a J=> sw J Y Y Y (R.convI Tryz.underlying5 Tryz.underlying3 (J.ev Y) (by omega)) fun a J=> sw J Y Y Y (R.indexS Tryz.underlying61 sz3 (J.ev Y) (J.ev Y) (by omega) (by omega)) fun a J=> so (wn Y) (O.store sz3 (J.ev Y) (J.ev Y) Y Y G .h (mki_at (cAt F.code (p + 1)) (fun i=> cAt F.code (p + 2 + i)) i _ Y) (by rw [length_mki]; omega) fun w G=> ?_))
       refine s0 <| blk_n <| then_n (hK52 _ _ <| wp_region_lit <| mv J Y Y fun a J=> aI J Y Y Y (by omega) fun a J=> av J Y Y fun a J=> s0 <| then_n (hKL2 (cAt F.code (p + 1) - (i + 1)) _ _ ?_ ?_))
       ·omega
       exact ⟨i + 1, Y, J.sub ⟨Y, Y, Y, Y, Y, Y, Y, Y, Y, Y, Y, Y, Y, Y, Y, (congrArg (fun z => some (Value.int .i64 z)) (by omega)), trivial⟩, G.sel [0, 1, 2, 3, 4] Y Y, by omega⟩
      have hLi : i = cAt F.code (p + 1) := by omega
      subst hLi
      rw [mki_all] at G
      have hbe : (List.range (cAt F.code (p + 1))).map (fun i => cAt F.code (p + 2 + i)) = (F.code.drop (p + 2)).take (sizeN F.code p - 2) := by (rw [show sizeN F.code p - 2 = cAt F.code (p + 1) by omega]; exact bytes_at (by omega))
      refine wp_exit (then_x (then_x (blk_hit <| then_n (hK48 _ _ <| wp_region_lit <| mv J Y Y fun a J=> so (wn Y) (O.call Y Y J ent29 (J.evs Y) G (number_n (some ⟨b166, 0, none⟩) (cAt F.code (p + 1)) (cAt F.code (p + 1)) ((List.range (cAt F.code (p + 1))).map fun i=> cAt F.code (p + 2 + i)) w (Rd.own0 G .h) (byt_range (fun i=> cAt_lt hpi.ok.byt _) _) (by omega) (by simp)) fun v s185 a w hR J G=> ?_)))))
      obtain ⟨rfl, rfl⟩ := hR
      refine so (wn Y) (O.buildSlice (l := [_, _, _, _]) Y Y J Tryz.underlying33 inf32 Y Y (J.evp Y) (by decide) Y G fun b186 a w J G=> ?_)
      refine av J Y Y fun a J=> s0 <| blk_n ?_
      exact then_n (hK32' _ _ ⟨stk, [numB ((List.range (cAt F.code (p + 1))).map (fun i => cAt F.code (p + 2 + i)))], _, asks, _, _, _, _, _, _, _, J.sub ⟨Y, Y, Y, Y, Y, Y, Y, Y, Y, Y, Y, trivial⟩, G.sel [3, 4, 0, 5, 6] Y Y, hO9, hO10, own_w1 b186 _, (by rw [hbe]; exact mid_push hdo (by omega))⟩)
     refine wp_seq_k fun K53 hK53=> wp_region_lit <| eL J Y Y Y fun a J=> av J Y Y fun a J=> s0 <| then_n (hK53 _ _ <| cD J Y (fun hC3=> ?_) (fun hC3=> ?_))
     ·refine wp_skip <| blk_n ?_
      have G := G.cons0
      exact then_n (hK32' _ _ ⟨stk, [], _, asks, _, _, _, _, _, _, _, J.sub ⟨Y, Y, Y, Y, Y, Y, Y, Y, Y, Y, Y, trivial⟩, G.sel [3, 4, 0, 5, 6] Y Y, hO9, hO10, OwnS.nil 32 4, mid_pop hdo (by omega)⟩)
     refine wp_seq_k fun K54 hK54=> wp_region_lit <| eL J Y Y Y fun a J=> av J Y Y fun a J=> s0 <| then_n (hK54 _ _ <| cD J Y (fun hC4=> ?_) (fun hC4=> ?_))
     ·have htk : takesN (cAt F.code p) = takesN 4 := tk_is (by omega); rw [show takesN 4 = 0 from rfl] at htk
      have hb4 := sz_two hs (by omega); have hob4 := hob hb4; have hd4 := deep_45 (code := F.code) (p := p) (by omega)
      refine wp_region_lit <| mv J Y Y fun a J=> mv J Y Y fun a J=> sw J Y Y Y (R.len Tryz.underlying33 (J.ev Y)) fun a J=> sw J Y Y Y (R.subI (J.ev Y) (J.ev Y) (by omega)) fun a J=> mv J Y Y fun a J=> sw J Y Y Y (R.subI (J.ev Y) (J.ev Y) (by omega)) fun a J=> sw J Y Y Y (R.indexO Tryz.underlying33 sz32 (J.ev Y) (Rd.ne (hO9.rd G (.t (.t .h))) (by rw [wcs_length]; omega)) (J.ev Y) (by omega) (by omega)) fun a J=> sw J Y Y Y (R.loadAO (cs := wc (stk.getD (stk.length - 1 - ob) 0)) agg32 (J.ev Y) (hO9.rd G (.t (.t .h))) sz32 Y (Nat.succ_pos _) (wcs_at (k := stk.length - 1 - ob) (by omega) (by omega))) fun a J=> so (wn Y) (O.buildSlice (l := [_, _, _, _]) Y Y J Tryz.underlying33 inf32 Y Y (J.evp Y) (by decide) Y G fun b199 a w J G=> ?_)
      refine av J Y Y fun a J=> s0 <| blk_n ?_
      exact then_n (hK32' _ _ ⟨stk, [stk.getD (stk.length - 1 - ob) 0], _, asks, _, _, _, _, _, _, _, J.sub ⟨Y, Y, Y, Y, Y, Y, Y, Y, Y, Y, Y, trivial⟩, G.sel [3, 4, 0, 5, 6] Y Y, hO9, hO10, own_w1 b199 _, mid_dup hdo (by omega) hob4⟩)
     refine wp_seq_k fun K55 hK55=> wp_region_lit <| eL J Y Y Y fun a J=> av J Y Y fun a J=> s0 <| then_n (hK55 _ _ <| cD J Y (fun hC5=> ?_) (fun hC5=> ?_))
     ·have htk : takesN (cAt F.code p) = takesN 5 := tk_is (by omega); rw [show takesN 5 = 0 from rfl] at htk
      have hb4 := sz_two hs (by omega); have hob4 := hob hb4; have hd4 := deep_45 (code := F.code) (p := p) (by omega)
      obtain ⟨gb, rest, rfl, rfl, hnc, hcl9, hcm⟩ := own_open3 hO9 (by omega)
      refine wp_drawS G [(0, 0), (1, 0), (2, 0), (3, 0), (4, 0), (5, 0), (6, 0), (7, 0), (8, 0), (9, 0), (10, 0), (11, 0), (12, 0), (13, 0), (14, 0), (15, 0), (16, 0), (17, 1), (18, 0), (19, 0), (20, 0), (21, 0), (22, 0), (23, 1), (24, 0), (25, 3), (26, 0), (27, 3)] mix (by kernel_rfl) (hP.block.then.block.then.block) fun w G=> ?_
      have hD := G
      refine dm J Y Y Y fun a J=> dm J Y Y Y fun a J=> dv J Y Y Y Y (fun w=> R.len Tryz.underlying33 (J.ev Y)) fun a J=> dv J Y Y Y Y (fun w=> R.subI (J.ev Y) (J.ev Y) (by omega)) fun a J=> dm J Y Y Y fun a J=> dm J Y Y Y fun a J=> dv J Y Y Y Y (fun w=> R.len Tryz.underlying33 (J.ev Y)) fun a J=> dv J Y Y Y Y (fun w=> R.subI (J.ev Y) (J.ev Y) (by omega)) fun a J=> dm J Y Y Y fun a J=> dv J Y Y Y Y (fun w=> R.subI (J.ev Y) (J.ev Y) (by omega)) fun a J=> dm J Y Y Y fun a J=> dm J Y Y Y fun a J=> dv J Y Y Y Y (fun w=> R.len Tryz.underlying33 (J.ev Y)) fun a J=> dv J Y Y Y Y (fun w=> R.subI (J.ev Y) (J.ev Y) (by omega)) fun a J=> dm J Y Y Y fun a J=> dv J Y Y Y Y (fun w=> R.subI (J.ev Y) (J.ev Y) (by omega)) fun a J=> dv J Y Y Y Y (fun w=> R.indexS Tryz.underlying33 sz32 (J.ev Y) (J.ev Y) (by omega) (by omega)) fun a J=> ds J Y Y Y Y hD (fun w hD=> R.loadA (cs := wc (stk.getD (stk.length - 1 - ob) 0)) agg32 (J.ev Y) hD (.t (.t .h)) sz32 Y (wcs_atR (k := stk.length - 1 - ob) (by omega) (by omega))) fun a J=> ?_
      refine dm J Y Y Y fun a J=> dm J Y Y Y fun a J=> dv J Y Y Y Y (fun w=> R.len Tryz.underlying33 (J.ev Y)) fun a J=> dv J Y Y Y Y (fun w=> R.subI (J.ev Y) (J.ev Y) (by omega)) fun a J=> dv J Y Y Y Y (fun w=> R.indexS Tryz.underlying33 sz32 (J.ev Y) (J.ev Y) (by omega) (by omega)) fun a J=> ds J Y Y Y Y hD (fun w hD=> R.loadA (cs := wc (stk.getD (stk.length - 1) 0)) agg32 (J.ev Y) hD (.t (.t .h)) sz32 Y (wcs_atR (k := stk.length - 1) (by omega) (by omega))) fun a J=> ?_
      refine dv J Y Y Y Y (fun w=> R.indexS Tryz.underlying33 sz32 (J.ev Y) (J.ev Y) (by omega) (by omega)) fun a J=> dw Y (wn Y) (O.storeA sz32 (J.ev Y) (J.ev Y) Y Y (by simp [Value.oneCell']) G (.t (.t .h)) (wcs_splR (k := stk.length - 1) (by omega) (by omega)) (by rw [hcl9]; simp only [List.length_cons, List.length_nil]; omega) fun w G=> ?_)
      refine dv J Y Y Y Y (fun w=> R.indexS Tryz.underlying33 sz32 (J.ev Y) (J.ev Y) (by omega) (by omega)) fun a J=> dw Y (wn Y) (O.storeA sz32 (J.ev Y) (J.ev Y) Y Y (by simp [Value.oneCell']) G (.t (.t .h)) (wcs_splR (k := stk.length - 1 - ob) (by rw [List.length_set]; omega) (by omega)) (by rw [List.length_append, wcs_length, List.length_set, ← wcs_length, ← List.length_append, hcl9]; simp only [List.length_cons, List.length_nil]; omega) fun w G=> ?_)
      refine d0 <| blk_n ?_
      have G := G.cons0
      exact then_n (hK32' _ _ ⟨swapN stk ob, [], _, asks, _, _, _, _, _, _, _, J.sub ⟨Y, Y, Y, Y, Y, Y, Y, Y, Y, Y, Y, trivial⟩, G.sel [3, 4, 0, 5, 6] Y Y, own_swap hnc hcl9 hcm, hO10, OwnS.nil 32 4, mid_swap hdo (by omega) hob4⟩)
     refine wp_seq_k fun K56 hK56=> wp_seq_k fun K57 hK57=> wp_region_lit <| eL J Y Y Y fun a J=> av J Y Y fun a J=> s0 <| then_n (hK57 _ _ <| cD J Y (fun hCs=> ?_) (fun hCs=> ?_))
     ·have J := J.nowT (t := 228) rfl hCs
      have hC : 6 ≤ cAt F.code p ∧ cAt F.code p ≤ 12 := by omega
      have htk := tk_sum hC
      refine wp_skip <| then_n (hK56 _ _ <| cT J Y <| wp_seq_k fun K58 hK58=> wp_draw2S G [(0, 0), (1, 0), (2, 0), (3, 1), (4, 0), (5, 0), (6, 1)] [[(7, 2), (8, 0), (9, 0), (10, 0), (11, 2), (12, 3), (13, 0)], [(11, 2), (7, 2), (8, 0), (9, 0), (10, 0), (12, 3), (13, 0)]] mix (by kernel_rfl) (hP.block.then.block.then.block.then) fun w G=> ?_)
      have hD := G
      refine dm J Y Y Y fun a J=> dm J Y Y Y fun a J=> dv J Y Y Y Y (fun w=> R.indexO Tryz.underlying33 sz32 (J.ev Y) (Rd.ne (hO136.rd G .h) (by rw [wcs_length, List.length_drop]; omega)) (J.ev Y) (by omega) (by omega)) fun a J=> ds J Y Y Y Y hD (fun w hD=> R.loadAO (cs := wc (uN F stk p 0)) agg32 (J.ev Y) (hO136.rd hD .h) sz32 Y (Nat.succ_pos _) (wcs_at (k := 0) (by omega) (by omega))) fun a J=> ?_
      refine dm J Y Y Y fun a J=> dv J Y Y Y Y (fun w=> R.indexO Tryz.underlying33 sz32 (J.ev Y) (Rd.ne (hO136.rd G .h) (by rw [wcs_length, List.length_drop]; omega)) (J.ev Y) (by omega) (by omega)) fun a J=> ds J Y Y Y Y hD (fun w hD=> R.loadAO (cs := wc (uN F stk p 1)) agg32 (J.ev Y) (hO136.rd hD .h) sz32 Y (Nat.succ_pos _) (wcs_at (k := 1) (by omega) (by omega))) fun a J=> ?_
      refine d0 <| alts2 ?_ ?_
      ·refine dl Y (wn Y) (O.call Y Y J ent44 (J.evs Y) G (sum2_calls (cAt F.code p) (uN F stk p 0) (uN F stk p 1) w hC (uN_lt hW 0) (uN_lt hW 1)) fun v s244 a w hR J G=> ⟨fun hD=> G.tail, ?_⟩)
       obtain ⟨⟨r3, ok3, rfl, hok, hno⟩, rfl⟩ := hR
       have hD := G.tail
       refine dm J Y Y Y fun a J=> dx J Y Y Y Y fun a J=> dx J Y Y Y Y fun a J=> dl Y (wn Y) (O.alloc Y Y J ze32 Y G fun b23 a w J G=> ⟨fun hD=> G.tail.tail, ?_⟩)
       have hD := G.tail.tail
       refine dw Y (wn Y) (O.storeW sz32 (J.ev Y) (J.ev Y) (Y) Y (by simp [Value.oneCell']) G .h (Y) fun w G=> ?_)
       refine da J Y Y Y fun a J=> d0 <| then_n (hK58 _ _ <| wp_seq_k fun K59 hK59=> wp_seq_k fun K60 hK60=> wp_region_lit <| mv J Y Y fun a J=> sw J Y Y Y (R.as (u := .bool (decide (ok3 = false))) (R.not (J.ev Y)) (by cases ok3 <;> rfl)) fun a J=> s0 <| then_n (hK60 _ _ <| cD J Y (fun c22=> ?_) (fun c22=> ?_)))
       ·have hpl := play_err hc hcl (by decide) (hrun.trans (runN_err (e := 104) (sum_bad hdo hC (hno c22))))
        refine wp_seq_k fun K61 hK61=> wp_region_lit <| sw J Y Y Y (R.buildStr (l := [_, _, _, _, _]) Tryz.underlying45 ze45 pl45 (J.evp Y) Y) fun a J=> mv J Y Y fun a J=> so (wn Y) (O.storeW sz45 (J.ev Y) (J.ev Y) (Y) Y (by simp [Value.oneCell']) G (.t (.t (.t (.t (.t (.t (.t .h))))))) (Y) fun w G=> ?_)
        refine av J Y Y fun a J=> av J Y Y fun a J=> s0 <| then_n (hK61 _ _ <| wp_ret (then_r (blk_r (then_r (blk_r (then_r (blk_r (hR _ _ _ _ _ J (run_results Tryz.results12 (.cw J Y agg45 G (.t (.t (.t (.t (.t (.t (.t .h))))))) sz45 (Y) (.t J Y (.t J Y (.nil))))) ?_))))))))
        rw [hpl]
        exact ⟨_, z10, Y, runR A10 c10 (by kernel_rfl) hO10, G.one (.t (.t (.t (.t (.t .h)))))⟩
       have hok3 : ok3 = true := by (cases ok3; exact absurd rfl c22; rfl)
       refine wp_skip <| then_n (hK59 _ _ <| wp_region_lit <| sw J Y Y Y (R.loadW agg32 (J.ev Y) G .h sz32 (Y)) fun a J=> so (wn Y) (O.buildSlice (l := [_, _, _, _]) Y Y J Tryz.underlying33 inf32 Y Y (J.evp Y) (by decide) Y G fun b252 a w J G=> ?_))
       refine av J Y Y fun a J=> s0 <| blk_n ?_
       exact then_n (hK32' _ _ ⟨stk, [r3], _, asks, _, _, _, _, _, _, _, J.sub ⟨Y, Y, Y, Y, Y, Y, Y, Y, Y, Y, Y, trivial⟩, G.sel [5, 6, 0, 7, 8] Y Y, hO9, hO10, own_w1 b252 _, mid_sum hdo hC (hok hok3)⟩)
      refine dl Y (wn Y) (O.alloc Y Y J ze32 Y G fun b23 a w J G=> ⟨fun hD=> G.tail, ?_⟩)
      have hD := G.tail
      refine dl Y (wn Y) (O.call Y Y J ent44 (J.evs Y) G (sum2_calls (cAt F.code p) (uN F stk p 0) (uN F stk p 1) w hC (uN_lt hW 0) (uN_lt hW 1)) fun v s244 a w hR J G=> ⟨fun hD=> G.tail.tail, ?_⟩)
      obtain ⟨⟨r3, ok3, rfl, hok, hno⟩, rfl⟩ := hR
      have hD := G.tail.tail
      refine dm J Y Y Y fun a J=> dx J Y Y Y Y fun a J=> dx J Y Y Y Y fun a J=> dw Y (wn Y) (O.storeW sz32 (J.ev Y) (J.ev Y) (Y) Y (by simp [Value.oneCell']) G (.t .h) (Y) fun w G=> ?_)
      refine da J Y Y Y fun a J=> d0 <| then_n (hK58 _ _ <| wp_seq_k fun K62 hK62=> wp_seq_k fun K63 hK63=> wp_region_lit <| mv J Y Y fun a J=> sw J Y Y Y (R.as (u := .bool (decide (ok3 = false))) (R.not (J.ev Y)) (by cases ok3 <;> rfl)) fun a J=> s0 <| then_n (hK63 _ _ <| cD J Y (fun c22=> ?_) (fun c22=> ?_)))
      ·have hpl := play_err hc hcl (by decide) (hrun.trans (runN_err (e := 104) (sum_bad hdo hC (hno c22))))
       refine wp_seq_k fun K64 hK64=> wp_region_lit <| sw J Y Y Y (R.buildStr (l := [_, _, _, _, _]) Tryz.underlying45 ze45 pl45 (J.evp Y) Y) fun a J=> mv J Y Y fun a J=> so (wn Y) (O.storeW sz45 (J.ev Y) (J.ev Y) (Y) Y (by simp [Value.oneCell']) G (.t (.t (.t (.t (.t (.t (.t .h))))))) (Y) fun w G=> ?_)
       refine av J Y Y fun a J=> av J Y Y fun a J=> s0 <| then_n (hK64 _ _ <| wp_ret (then_r (blk_r (then_r (blk_r (then_r (blk_r (hR _ _ _ _ _ J (run_results Tryz.results12 (.cw J Y agg45 G (.t (.t (.t (.t (.t (.t (.t .h))))))) sz45 (Y) (.t J Y (.t J Y (.nil))))) ?_))))))))
       rw [hpl]
       exact ⟨_, z10, Y, runR A10 c10 (by kernel_rfl) hO10, G.one (.t (.t (.t (.t (.t .h)))))⟩
      have hok3 : ok3 = true := by (cases ok3; exact absurd rfl c22; rfl)
      refine wp_skip <| then_n (hK62 _ _ <| wp_region_lit <| sw J Y Y Y (R.loadW agg32 (J.ev Y) G (.t .h) sz32 (Y)) fun a J=> so (wn Y) (O.buildSlice (l := [_, _, _, _]) Y Y J Tryz.underlying33 inf32 Y Y (J.evp Y) (by decide) Y G fun b252 a w J G=> ?_))
      refine av J Y Y fun a J=> s0 <| blk_n ?_
      exact then_n (hK32' _ _ ⟨stk, [r3], _, asks, _, _, _, _, _, _, _, J.sub ⟨Y, Y, Y, Y, Y, Y, Y, Y, Y, Y, Y, trivial⟩, G.sel [5, 6, 0, 7, 8] Y Y, hO9, hO10, own_w1 b252 _, mid_sum hdo hC (hok hok3)⟩)
     have J := J.nowF (t := 228) rfl hCs
     refine wp_seq_k fun K65 hK65=> wp_region_lit <| eL J Y Y Y fun a J=> av J Y Y fun a J=> s0 <| then_n (hK65 _ _ <| cD J Y (fun hCs=> ?_) (fun hCs=> ?_))
     ·have J := J.nowT (t := 228) rfl hCs
      have hC : 6 ≤ cAt F.code p ∧ cAt F.code p ≤ 12 := by omega
      have htk := tk_sum hC
      refine wp_skip <| then_n (hK56 _ _ <| cT J Y <| wp_seq_k fun K66 hK66=> wp_draw2S G [(0, 0), (1, 0), (2, 0), (3, 1), (4, 0), (5, 0), (6, 1)] [[(7, 2), (8, 0), (9, 0), (10, 0), (11, 2), (12, 3), (13, 0)], [(11, 2), (7, 2), (8, 0), (9, 0), (10, 0), (12, 3), (13, 0)]] mix (by kernel_rfl) (hP.block.then.block.then.block.then) fun w G=> ?_)
      have hD := G
      refine dm J Y Y Y fun a J=> dm J Y Y Y fun a J=> dv J Y Y Y Y (fun w=> R.indexO Tryz.underlying33 sz32 (J.ev Y) (Rd.ne (hO136.rd G .h) (by rw [wcs_length, List.length_drop]; omega)) (J.ev Y) (by omega) (by omega)) fun a J=> ds J Y Y Y Y hD (fun w hD=> R.loadAO (cs := wc (uN F stk p 0)) agg32 (J.ev Y) (hO136.rd hD .h) sz32 Y (Nat.succ_pos _) (wcs_at (k := 0) (by omega) (by omega))) fun a J=> ?_
      refine dm J Y Y Y fun a J=> dv J Y Y Y Y (fun w=> R.indexO Tryz.underlying33 sz32 (J.ev Y) (Rd.ne (hO136.rd G .h) (by rw [wcs_length, List.length_drop]; omega)) (J.ev Y) (by omega) (by omega)) fun a J=> ds J Y Y Y Y hD (fun w hD=> R.loadAO (cs := wc (uN F stk p 1)) agg32 (J.ev Y) (hO136.rd hD .h) sz32 Y (Nat.succ_pos _) (wcs_at (k := 1) (by omega) (by omega))) fun a J=> ?_
      refine d0 <| alts2 ?_ ?_
      ·refine dl Y (wn Y) (O.call Y Y J ent44 (J.evs Y) G (sum2_calls (cAt F.code p) (uN F stk p 0) (uN F stk p 1) w hC (uN_lt hW 0) (uN_lt hW 1)) fun v s244 a w hR J G=> ⟨fun hD=> G.tail, ?_⟩)
       obtain ⟨⟨r3, ok3, rfl, hok, hno⟩, rfl⟩ := hR
       have hD := G.tail
       refine dm J Y Y Y fun a J=> dx J Y Y Y Y fun a J=> dx J Y Y Y Y fun a J=> dl Y (wn Y) (O.alloc Y Y J ze32 Y G fun b23 a w J G=> ⟨fun hD=> G.tail.tail, ?_⟩)
       have hD := G.tail.tail
       refine dw Y (wn Y) (O.storeW sz32 (J.ev Y) (J.ev Y) (Y) Y (by simp [Value.oneCell']) G .h (Y) fun w G=> ?_)
       refine da J Y Y Y fun a J=> d0 <| then_n (hK66 _ _ <| wp_seq_k fun K67 hK67=> wp_seq_k fun K68 hK68=> wp_region_lit <| mv J Y Y fun a J=> sw J Y Y Y (R.as (u := .bool (decide (ok3 = false))) (R.not (J.ev Y)) (by cases ok3 <;> rfl)) fun a J=> s0 <| then_n (hK68 _ _ <| cD J Y (fun c22=> ?_) (fun c22=> ?_)))
       ·have hpl := play_err hc hcl (by decide) (hrun.trans (runN_err (e := 104) (sum_bad hdo hC (hno c22))))
        refine wp_seq_k fun K69 hK69=> wp_region_lit <| sw J Y Y Y (R.buildStr (l := [_, _, _, _, _]) Tryz.underlying45 ze45 pl45 (J.evp Y) Y) fun a J=> mv J Y Y fun a J=> so (wn Y) (O.storeW sz45 (J.ev Y) (J.ev Y) (Y) Y (by simp [Value.oneCell']) G (.t (.t (.t (.t (.t (.t (.t .h))))))) (Y) fun w G=> ?_)
        refine av J Y Y fun a J=> av J Y Y fun a J=> s0 <| then_n (hK69 _ _ <| wp_ret (then_r (blk_r (then_r (blk_r (then_r (blk_r (hR _ _ _ _ _ J (run_results Tryz.results12 (.cw J Y agg45 G (.t (.t (.t (.t (.t (.t (.t .h))))))) sz45 (Y) (.t J Y (.t J Y (.nil))))) ?_))))))))
        rw [hpl]
        exact ⟨_, z10, Y, runR A10 c10 (by kernel_rfl) hO10, G.one (.t (.t (.t (.t (.t .h)))))⟩
       have hok3 : ok3 = true := by (cases ok3; exact absurd rfl c22; rfl)
       refine wp_skip <| then_n (hK67 _ _ <| wp_region_lit <| sw J Y Y Y (R.loadW agg32 (J.ev Y) G .h sz32 (Y)) fun a J=> so (wn Y) (O.buildSlice (l := [_, _, _, _]) Y Y J Tryz.underlying33 inf32 Y Y (J.evp Y) (by decide) Y G fun b252 a w J G=> ?_))
       refine av J Y Y fun a J=> s0 <| blk_n ?_
       exact then_n (hK32' _ _ ⟨stk, [r3], _, asks, _, _, _, _, _, _, _, J.sub ⟨Y, Y, Y, Y, Y, Y, Y, Y, Y, Y, Y, trivial⟩, G.sel [5, 6, 0, 7, 8] Y Y, hO9, hO10, own_w1 b252 _, mid_sum hdo hC (hok hok3)⟩)
      refine dl Y (wn Y) (O.alloc Y Y J ze32 Y G fun b23 a w J G=> ⟨fun hD=> G.tail, ?_⟩)
      have hD := G.tail
      refine dl Y (wn Y) (O.call Y Y J ent44 (J.evs Y) G (sum2_calls (cAt F.code p) (uN F stk p 0) (uN F stk p 1) w hC (uN_lt hW 0) (uN_lt hW 1)) fun v s244 a w hR J G=> ⟨fun hD=> G.tail.tail, ?_⟩)
      obtain ⟨⟨r3, ok3, rfl, hok, hno⟩, rfl⟩ := hR
      have hD := G.tail.tail
      refine dm J Y Y Y fun a J=> dx J Y Y Y Y fun a J=> dx J Y Y Y Y fun a J=> dw Y (wn Y) (O.storeW sz32 (J.ev Y) (J.ev Y) (Y) Y (by simp [Value.oneCell']) G (.t .h) (Y) fun w G=> ?_)
      refine da J Y Y Y fun a J=> d0 <| then_n (hK66 _ _ <| wp_seq_k fun K70 hK70=> wp_seq_k fun K71 hK71=> wp_region_lit <| mv J Y Y fun a J=> sw J Y Y Y (R.as (u := .bool (decide (ok3 = false))) (R.not (J.ev Y)) (by cases ok3 <;> rfl)) fun a J=> s0 <| then_n (hK71 _ _ <| cD J Y (fun c22=> ?_) (fun c22=> ?_)))
      ·have hpl := play_err hc hcl (by decide) (hrun.trans (runN_err (e := 104) (sum_bad hdo hC (hno c22))))
       refine wp_seq_k fun K72 hK72=> wp_region_lit <| sw J Y Y Y (R.buildStr (l := [_, _, _, _, _]) Tryz.underlying45 ze45 pl45 (J.evp Y) Y) fun a J=> mv J Y Y fun a J=> so (wn Y) (O.storeW sz45 (J.ev Y) (J.ev Y) (Y) Y (by simp [Value.oneCell']) G (.t (.t (.t (.t (.t (.t (.t .h))))))) (Y) fun w G=> ?_)
       refine av J Y Y fun a J=> av J Y Y fun a J=> s0 <| then_n (hK72 _ _ <| wp_ret (then_r (blk_r (then_r (blk_r (then_r (blk_r (hR _ _ _ _ _ J (run_results Tryz.results12 (.cw J Y agg45 G (.t (.t (.t (.t (.t (.t (.t .h))))))) sz45 (Y) (.t J Y (.t J Y (.nil))))) ?_))))))))
       rw [hpl]
       exact ⟨_, z10, Y, runR A10 c10 (by kernel_rfl) hO10, G.one (.t (.t (.t (.t (.t .h)))))⟩
      have hok3 : ok3 = true := by (cases ok3; exact absurd rfl c22; rfl)
      refine wp_skip <| then_n (hK70 _ _ <| wp_region_lit <| sw J Y Y Y (R.loadW agg32 (J.ev Y) G (.t .h) sz32 (Y)) fun a J=> so (wn Y) (O.buildSlice (l := [_, _, _, _]) Y Y J Tryz.underlying33 inf32 Y Y (J.evp Y) (by decide) Y G fun b252 a w J G=> ?_))
      refine av J Y Y fun a J=> s0 <| blk_n ?_
      exact then_n (hK32' _ _ ⟨stk, [r3], _, asks, _, _, _, _, _, _, _, J.sub ⟨Y, Y, Y, Y, Y, Y, Y, Y, Y, Y, Y, trivial⟩, G.sel [5, 6, 0, 7, 8] Y Y, hO9, hO10, own_w1 b252 _, mid_sum hdo hC (hok hok3)⟩)
     have J := J.nowF (t := 228) rfl hCs
     refine wp_seq_k fun K73 hK73=> wp_region_lit <| eL J Y Y Y fun a J=> av J Y Y fun a J=> s0 <| then_n (hK73 _ _ <| cD J Y (fun hCs=> ?_) (fun hCs=> ?_))
     ·have J := J.nowT (t := 228) rfl hCs
      have hC : 6 ≤ cAt F.code p ∧ cAt F.code p ≤ 12 := by omega
      have htk := tk_sum hC
      refine wp_skip <| then_n (hK56 _ _ <| cT J Y <| wp_seq_k fun K74 hK74=> wp_draw2S G [(0, 0), (1, 0), (2, 0), (3, 1), (4, 0), (5, 0), (6, 1)] [[(7, 2), (8, 0), (9, 0), (10, 0), (11, 2), (12, 3), (13, 0)], [(11, 2), (7, 2), (8, 0), (9, 0), (10, 0), (12, 3), (13, 0)]] mix (by kernel_rfl) (hP.block.then.block.then.block.then) fun w G=> ?_)
      have hD := G
      refine dm J Y Y Y fun a J=> dm J Y Y Y fun a J=> dv J Y Y Y Y (fun w=> R.indexO Tryz.underlying33 sz32 (J.ev Y) (Rd.ne (hO136.rd G .h) (by rw [wcs_length, List.length_drop]; omega)) (J.ev Y) (by omega) (by omega)) fun a J=> ds J Y Y Y Y hD (fun w hD=> R.loadAO (cs := wc (uN F stk p 0)) agg32 (J.ev Y) (hO136.rd hD .h) sz32 Y (Nat.succ_pos _) (wcs_at (k := 0) (by omega) (by omega))) fun a J=> ?_
      refine dm J Y Y Y fun a J=> dv J Y Y Y Y (fun w=> R.indexO Tryz.underlying33 sz32 (J.ev Y) (Rd.ne (hO136.rd G .h) (by rw [wcs_length, List.length_drop]; omega)) (J.ev Y) (by omega) (by omega)) fun a J=> ds J Y Y Y Y hD (fun w hD=> R.loadAO (cs := wc (uN F stk p 1)) agg32 (J.ev Y) (hO136.rd hD .h) sz32 Y (Nat.succ_pos _) (wcs_at (k := 1) (by omega) (by omega))) fun a J=> ?_
      refine d0 <| alts2 ?_ ?_
      ·refine dl Y (wn Y) (O.call Y Y J ent44 (J.evs Y) G (sum2_calls (cAt F.code p) (uN F stk p 0) (uN F stk p 1) w hC (uN_lt hW 0) (uN_lt hW 1)) fun v s244 a w hR J G=> ⟨fun hD=> G.tail, ?_⟩)
       obtain ⟨⟨r3, ok3, rfl, hok, hno⟩, rfl⟩ := hR
       have hD := G.tail
       refine dm J Y Y Y fun a J=> dx J Y Y Y Y fun a J=> dx J Y Y Y Y fun a J=> dl Y (wn Y) (O.alloc Y Y J ze32 Y G fun b23 a w J G=> ⟨fun hD=> G.tail.tail, ?_⟩)
       have hD := G.tail.tail
       refine dw Y (wn Y) (O.storeW sz32 (J.ev Y) (J.ev Y) (Y) Y (by simp [Value.oneCell']) G .h (Y) fun w G=> ?_)
       refine da J Y Y Y fun a J=> d0 <| then_n (hK74 _ _ <| wp_seq_k fun K75 hK75=> wp_seq_k fun K76 hK76=> wp_region_lit <| mv J Y Y fun a J=> sw J Y Y Y (R.as (u := .bool (decide (ok3 = false))) (R.not (J.ev Y)) (by cases ok3 <;> rfl)) fun a J=> s0 <| then_n (hK76 _ _ <| cD J Y (fun c22=> ?_) (fun c22=> ?_)))
       ·have hpl := play_err hc hcl (by decide) (hrun.trans (runN_err (e := 104) (sum_bad hdo hC (hno c22))))
        refine wp_seq_k fun K77 hK77=> wp_region_lit <| sw J Y Y Y (R.buildStr (l := [_, _, _, _, _]) Tryz.underlying45 ze45 pl45 (J.evp Y) Y) fun a J=> mv J Y Y fun a J=> so (wn Y) (O.storeW sz45 (J.ev Y) (J.ev Y) (Y) Y (by simp [Value.oneCell']) G (.t (.t (.t (.t (.t (.t (.t .h))))))) (Y) fun w G=> ?_)
        refine av J Y Y fun a J=> av J Y Y fun a J=> s0 <| then_n (hK77 _ _ <| wp_ret (then_r (blk_r (then_r (blk_r (then_r (blk_r (hR _ _ _ _ _ J (run_results Tryz.results12 (.cw J Y agg45 G (.t (.t (.t (.t (.t (.t (.t .h))))))) sz45 (Y) (.t J Y (.t J Y (.nil))))) ?_))))))))
        rw [hpl]
        exact ⟨_, z10, Y, runR A10 c10 (by kernel_rfl) hO10, G.one (.t (.t (.t (.t (.t .h)))))⟩
       have hok3 : ok3 = true := by (cases ok3; exact absurd rfl c22; rfl)
       refine wp_skip <| then_n (hK75 _ _ <| wp_region_lit <| sw J Y Y Y (R.loadW agg32 (J.ev Y) G .h sz32 (Y)) fun a J=> so (wn Y) (O.buildSlice (l := [_, _, _, _]) Y Y J Tryz.underlying33 inf32 Y Y (J.evp Y) (by decide) Y G fun b252 a w J G=> ?_))
       refine av J Y Y fun a J=> s0 <| blk_n ?_
       exact then_n (hK32' _ _ ⟨stk, [r3], _, asks, _, _, _, _, _, _, _, J.sub ⟨Y, Y, Y, Y, Y, Y, Y, Y, Y, Y, Y, trivial⟩, G.sel [5, 6, 0, 7, 8] Y Y, hO9, hO10, own_w1 b252 _, mid_sum hdo hC (hok hok3)⟩)
      refine dl Y (wn Y) (O.alloc Y Y J ze32 Y G fun b23 a w J G=> ⟨fun hD=> G.tail, ?_⟩)
      have hD := G.tail
      refine dl Y (wn Y) (O.call Y Y J ent44 (J.evs Y) G (sum2_calls (cAt F.code p) (uN F stk p 0) (uN F stk p 1) w hC (uN_lt hW 0) (uN_lt hW 1)) fun v s244 a w hR J G=> ⟨fun hD=> G.tail.tail, ?_⟩)
      obtain ⟨⟨r3, ok3, rfl, hok, hno⟩, rfl⟩ := hR
      have hD := G.tail.tail
      refine dm J Y Y Y fun a J=> dx J Y Y Y Y fun a J=> dx J Y Y Y Y fun a J=> dw Y (wn Y) (O.storeW sz32 (J.ev Y) (J.ev Y) (Y) Y (by simp [Value.oneCell']) G (.t .h) (Y) fun w G=> ?_)
      refine da J Y Y Y fun a J=> d0 <| then_n (hK74 _ _ <| wp_seq_k fun K78 hK78=> wp_seq_k fun K79 hK79=> wp_region_lit <| mv J Y Y fun a J=> sw J Y Y Y (R.as (u := .bool (decide (ok3 = false))) (R.not (J.ev Y)) (by cases ok3 <;> rfl)) fun a J=> s0 <| then_n (hK79 _ _ <| cD J Y (fun c22=> ?_) (fun c22=> ?_)))
      ·have hpl := play_err hc hcl (by decide) (hrun.trans (runN_err (e := 104) (sum_bad hdo hC (hno c22))))
       refine wp_seq_k fun K80 hK80=> wp_region_lit <| sw J Y Y Y (R.buildStr (l := [_, _, _, _, _]) Tryz.underlying45 ze45 pl45 (J.evp Y) Y) fun a J=> mv J Y Y fun a J=> so (wn Y) (O.storeW sz45 (J.ev Y) (J.ev Y) (Y) Y (by simp [Value.oneCell']) G (.t (.t (.t (.t (.t (.t (.t .h))))))) (Y) fun w G=> ?_)
       refine av J Y Y fun a J=> av J Y Y fun a J=> s0 <| then_n (hK80 _ _ <| wp_ret (then_r (blk_r (then_r (blk_r (then_r (blk_r (hR _ _ _ _ _ J (run_results Tryz.results12 (.cw J Y agg45 G (.t (.t (.t (.t (.t (.t (.t .h))))))) sz45 (Y) (.t J Y (.t J Y (.nil))))) ?_))))))))
       rw [hpl]
       exact ⟨_, z10, Y, runR A10 c10 (by kernel_rfl) hO10, G.one (.t (.t (.t (.t (.t .h)))))⟩
      have hok3 : ok3 = true := by (cases ok3; exact absurd rfl c22; rfl)
      refine wp_skip <| then_n (hK78 _ _ <| wp_region_lit <| sw J Y Y Y (R.loadW agg32 (J.ev Y) G (.t .h) sz32 (Y)) fun a J=> so (wn Y) (O.buildSlice (l := [_, _, _, _]) Y Y J Tryz.underlying33 inf32 Y Y (J.evp Y) (by decide) Y G fun b252 a w J G=> ?_))
      refine av J Y Y fun a J=> s0 <| blk_n ?_
      exact then_n (hK32' _ _ ⟨stk, [r3], _, asks, _, _, _, _, _, _, _, J.sub ⟨Y, Y, Y, Y, Y, Y, Y, Y, Y, Y, Y, trivial⟩, G.sel [5, 6, 0, 7, 8] Y Y, hO9, hO10, own_w1 b252 _, mid_sum hdo hC (hok hok3)⟩)
     have J := J.nowF (t := 228) rfl hCs
     refine wp_seq_k fun K81 hK81=> wp_region_lit <| eL J Y Y Y fun a J=> av J Y Y fun a J=> s0 <| then_n (hK81 _ _ <| cD J Y (fun hCs=> ?_) (fun hCs=> ?_))
     ·have J := J.nowT (t := 228) rfl hCs
      have hC : 6 ≤ cAt F.code p ∧ cAt F.code p ≤ 12 := by omega
      have htk := tk_sum hC
      refine wp_skip <| then_n (hK56 _ _ <| cT J Y <| wp_seq_k fun K82 hK82=> wp_draw2S G [(0, 0), (1, 0), (2, 0), (3, 1), (4, 0), (5, 0), (6, 1)] [[(7, 2), (8, 0), (9, 0), (10, 0), (11, 2), (12, 3), (13, 0)], [(11, 2), (7, 2), (8, 0), (9, 0), (10, 0), (12, 3), (13, 0)]] mix (by kernel_rfl) (hP.block.then.block.then.block.then) fun w G=> ?_)
      have hD := G
      refine dm J Y Y Y fun a J=> dm J Y Y Y fun a J=> dv J Y Y Y Y (fun w=> R.indexO Tryz.underlying33 sz32 (J.ev Y) (Rd.ne (hO136.rd G .h) (by rw [wcs_length, List.length_drop]; omega)) (J.ev Y) (by omega) (by omega)) fun a J=> ds J Y Y Y Y hD (fun w hD=> R.loadAO (cs := wc (uN F stk p 0)) agg32 (J.ev Y) (hO136.rd hD .h) sz32 Y (Nat.succ_pos _) (wcs_at (k := 0) (by omega) (by omega))) fun a J=> ?_
      refine dm J Y Y Y fun a J=> dv J Y Y Y Y (fun w=> R.indexO Tryz.underlying33 sz32 (J.ev Y) (Rd.ne (hO136.rd G .h) (by rw [wcs_length, List.length_drop]; omega)) (J.ev Y) (by omega) (by omega)) fun a J=> ds J Y Y Y Y hD (fun w hD=> R.loadAO (cs := wc (uN F stk p 1)) agg32 (J.ev Y) (hO136.rd hD .h) sz32 Y (Nat.succ_pos _) (wcs_at (k := 1) (by omega) (by omega))) fun a J=> ?_
      refine d0 <| alts2 ?_ ?_
      ·refine dl Y (wn Y) (O.call Y Y J ent44 (J.evs Y) G (sum2_calls (cAt F.code p) (uN F stk p 0) (uN F stk p 1) w hC (uN_lt hW 0) (uN_lt hW 1)) fun v s244 a w hR J G=> ⟨fun hD=> G.tail, ?_⟩)
       obtain ⟨⟨r3, ok3, rfl, hok, hno⟩, rfl⟩ := hR
       have hD := G.tail
       refine dm J Y Y Y fun a J=> dx J Y Y Y Y fun a J=> dx J Y Y Y Y fun a J=> dl Y (wn Y) (O.alloc Y Y J ze32 Y G fun b23 a w J G=> ⟨fun hD=> G.tail.tail, ?_⟩)
       have hD := G.tail.tail
       refine dw Y (wn Y) (O.storeW sz32 (J.ev Y) (J.ev Y) (Y) Y (by simp [Value.oneCell']) G .h (Y) fun w G=> ?_)
       refine da J Y Y Y fun a J=> d0 <| then_n (hK82 _ _ <| wp_seq_k fun K83 hK83=> wp_seq_k fun K84 hK84=> wp_region_lit <| mv J Y Y fun a J=> sw J Y Y Y (R.as (u := .bool (decide (ok3 = false))) (R.not (J.ev Y)) (by cases ok3 <;> rfl)) fun a J=> s0 <| then_n (hK84 _ _ <| cD J Y (fun c22=> ?_) (fun c22=> ?_)))
       ·have hpl := play_err hc hcl (by decide) (hrun.trans (runN_err (e := 104) (sum_bad hdo hC (hno c22))))
        refine wp_seq_k fun K85 hK85=> wp_region_lit <| sw J Y Y Y (R.buildStr (l := [_, _, _, _, _]) Tryz.underlying45 ze45 pl45 (J.evp Y) Y) fun a J=> mv J Y Y fun a J=> so (wn Y) (O.storeW sz45 (J.ev Y) (J.ev Y) (Y) Y (by simp [Value.oneCell']) G (.t (.t (.t (.t (.t (.t (.t .h))))))) (Y) fun w G=> ?_)
        refine av J Y Y fun a J=> av J Y Y fun a J=> s0 <| then_n (hK85 _ _ <| wp_ret (then_r (blk_r (then_r (blk_r (then_r (blk_r (hR _ _ _ _ _ J (run_results Tryz.results12 (.cw J Y agg45 G (.t (.t (.t (.t (.t (.t (.t .h))))))) sz45 (Y) (.t J Y (.t J Y (.nil))))) ?_))))))))
        rw [hpl]
        exact ⟨_, z10, Y, runR A10 c10 (by kernel_rfl) hO10, G.one (.t (.t (.t (.t (.t .h)))))⟩
       have hok3 : ok3 = true := by (cases ok3; exact absurd rfl c22; rfl)
       refine wp_skip <| then_n (hK83 _ _ <| wp_region_lit <| sw J Y Y Y (R.loadW agg32 (J.ev Y) G .h sz32 (Y)) fun a J=> so (wn Y) (O.buildSlice (l := [_, _, _, _]) Y Y J Tryz.underlying33 inf32 Y Y (J.evp Y) (by decide) Y G fun b252 a w J G=> ?_))
       refine av J Y Y fun a J=> s0 <| blk_n ?_
       exact then_n (hK32' _ _ ⟨stk, [r3], _, asks, _, _, _, _, _, _, _, J.sub ⟨Y, Y, Y, Y, Y, Y, Y, Y, Y, Y, Y, trivial⟩, G.sel [5, 6, 0, 7, 8] Y Y, hO9, hO10, own_w1 b252 _, mid_sum hdo hC (hok hok3)⟩)
      refine dl Y (wn Y) (O.alloc Y Y J ze32 Y G fun b23 a w J G=> ⟨fun hD=> G.tail, ?_⟩)
      have hD := G.tail
      refine dl Y (wn Y) (O.call Y Y J ent44 (J.evs Y) G (sum2_calls (cAt F.code p) (uN F stk p 0) (uN F stk p 1) w hC (uN_lt hW 0) (uN_lt hW 1)) fun v s244 a w hR J G=> ⟨fun hD=> G.tail.tail, ?_⟩)
      obtain ⟨⟨r3, ok3, rfl, hok, hno⟩, rfl⟩ := hR
      have hD := G.tail.tail
      refine dm J Y Y Y fun a J=> dx J Y Y Y Y fun a J=> dx J Y Y Y Y fun a J=> dw Y (wn Y) (O.storeW sz32 (J.ev Y) (J.ev Y) (Y) Y (by simp [Value.oneCell']) G (.t .h) (Y) fun w G=> ?_)
      refine da J Y Y Y fun a J=> d0 <| then_n (hK82 _ _ <| wp_seq_k fun K86 hK86=> wp_seq_k fun K87 hK87=> wp_region_lit <| mv J Y Y fun a J=> sw J Y Y Y (R.as (u := .bool (decide (ok3 = false))) (R.not (J.ev Y)) (by cases ok3 <;> rfl)) fun a J=> s0 <| then_n (hK87 _ _ <| cD J Y (fun c22=> ?_) (fun c22=> ?_)))
      ·have hpl := play_err hc hcl (by decide) (hrun.trans (runN_err (e := 104) (sum_bad hdo hC (hno c22))))
       refine wp_seq_k fun K88 hK88=> wp_region_lit <| sw J Y Y Y (R.buildStr (l := [_, _, _, _, _]) Tryz.underlying45 ze45 pl45 (J.evp Y) Y) fun a J=> mv J Y Y fun a J=> so (wn Y) (O.storeW sz45 (J.ev Y) (J.ev Y) (Y) Y (by simp [Value.oneCell']) G (.t (.t (.t (.t (.t (.t (.t .h))))))) (Y) fun w G=> ?_)
       refine av J Y Y fun a J=> av J Y Y fun a J=> s0 <| then_n (hK88 _ _ <| wp_ret (then_r (blk_r (then_r (blk_r (then_r (blk_r (hR _ _ _ _ _ J (run_results Tryz.results12 (.cw J Y agg45 G (.t (.t (.t (.t (.t (.t (.t .h))))))) sz45 (Y) (.t J Y (.t J Y (.nil))))) ?_))))))))
       rw [hpl]
       exact ⟨_, z10, Y, runR A10 c10 (by kernel_rfl) hO10, G.one (.t (.t (.t (.t (.t .h)))))⟩
      have hok3 : ok3 = true := by (cases ok3; exact absurd rfl c22; rfl)
      refine wp_skip <| then_n (hK86 _ _ <| wp_region_lit <| sw J Y Y Y (R.loadW agg32 (J.ev Y) G (.t .h) sz32 (Y)) fun a J=> so (wn Y) (O.buildSlice (l := [_, _, _, _]) Y Y J Tryz.underlying33 inf32 Y Y (J.evp Y) (by decide) Y G fun b252 a w J G=> ?_))
      refine av J Y Y fun a J=> s0 <| blk_n ?_
      exact then_n (hK32' _ _ ⟨stk, [r3], _, asks, _, _, _, _, _, _, _, J.sub ⟨Y, Y, Y, Y, Y, Y, Y, Y, Y, Y, Y, trivial⟩, G.sel [5, 6, 0, 7, 8] Y Y, hO9, hO10, own_w1 b252 _, mid_sum hdo hC (hok hok3)⟩)
     have J := J.nowF (t := 228) rfl hCs
     refine wp_seq_k fun K89 hK89=> wp_region_lit <| eL J Y Y Y fun a J=> av J Y Y fun a J=> s0 <| then_n (hK89 _ _ <| cD J Y (fun hCs=> ?_) (fun hCs=> ?_))
     ·have J := J.nowT (t := 228) rfl hCs
      have hC : 6 ≤ cAt F.code p ∧ cAt F.code p ≤ 12 := by omega
      have htk := tk_sum hC
      refine wp_skip <| then_n (hK56 _ _ <| cT J Y <| wp_seq_k fun K90 hK90=> wp_draw2S G [(0, 0), (1, 0), (2, 0), (3, 1), (4, 0), (5, 0), (6, 1)] [[(7, 2), (8, 0), (9, 0), (10, 0), (11, 2), (12, 3), (13, 0)], [(11, 2), (7, 2), (8, 0), (9, 0), (10, 0), (12, 3), (13, 0)]] mix (by kernel_rfl) (hP.block.then.block.then.block.then) fun w G=> ?_)
      have hD := G
      refine dm J Y Y Y fun a J=> dm J Y Y Y fun a J=> dv J Y Y Y Y (fun w=> R.indexO Tryz.underlying33 sz32 (J.ev Y) (Rd.ne (hO136.rd G .h) (by rw [wcs_length, List.length_drop]; omega)) (J.ev Y) (by omega) (by omega)) fun a J=> ds J Y Y Y Y hD (fun w hD=> R.loadAO (cs := wc (uN F stk p 0)) agg32 (J.ev Y) (hO136.rd hD .h) sz32 Y (Nat.succ_pos _) (wcs_at (k := 0) (by omega) (by omega))) fun a J=> ?_
      refine dm J Y Y Y fun a J=> dv J Y Y Y Y (fun w=> R.indexO Tryz.underlying33 sz32 (J.ev Y) (Rd.ne (hO136.rd G .h) (by rw [wcs_length, List.length_drop]; omega)) (J.ev Y) (by omega) (by omega)) fun a J=> ds J Y Y Y Y hD (fun w hD=> R.loadAO (cs := wc (uN F stk p 1)) agg32 (J.ev Y) (hO136.rd hD .h) sz32 Y (Nat.succ_pos _) (wcs_at (k := 1) (by omega) (by omega))) fun a J=> ?_
      refine d0 <| alts2 ?_ ?_
      ·refine dl Y (wn Y) (O.call Y Y J ent44 (J.evs Y) G (sum2_calls (cAt F.code p) (uN F stk p 0) (uN F stk p 1) w hC (uN_lt hW 0) (uN_lt hW 1)) fun v s244 a w hR J G=> ⟨fun hD=> G.tail, ?_⟩)
       obtain ⟨⟨r3, ok3, rfl, hok, hno⟩, rfl⟩ := hR
       have hD := G.tail
       refine dm J Y Y Y fun a J=> dx J Y Y Y Y fun a J=> dx J Y Y Y Y fun a J=> dl Y (wn Y) (O.alloc Y Y J ze32 Y G fun b23 a w J G=> ⟨fun hD=> G.tail.tail, ?_⟩)
       have hD := G.tail.tail
       refine dw Y (wn Y) (O.storeW sz32 (J.ev Y) (J.ev Y) (Y) Y (by simp [Value.oneCell']) G .h (Y) fun w G=> ?_)
       refine da J Y Y Y fun a J=> d0 <| then_n (hK90 _ _ <| wp_seq_k fun K91 hK91=> wp_seq_k fun K92 hK92=> wp_region_lit <| mv J Y Y fun a J=> sw J Y Y Y (R.as (u := .bool (decide (ok3 = false))) (R.not (J.ev Y)) (by cases ok3 <;> rfl)) fun a J=> s0 <| then_n (hK92 _ _ <| cD J Y (fun c22=> ?_) (fun c22=> ?_)))
       ·have hpl := play_err hc hcl (by decide) (hrun.trans (runN_err (e := 104) (sum_bad hdo hC (hno c22))))
        refine wp_seq_k fun K93 hK93=> wp_region_lit <| sw J Y Y Y (R.buildStr (l := [_, _, _, _, _]) Tryz.underlying45 ze45 pl45 (J.evp Y) Y) fun a J=> mv J Y Y fun a J=> so (wn Y) (O.storeW sz45 (J.ev Y) (J.ev Y) (Y) Y (by simp [Value.oneCell']) G (.t (.t (.t (.t (.t (.t (.t .h))))))) (Y) fun w G=> ?_)
        refine av J Y Y fun a J=> av J Y Y fun a J=> s0 <| then_n (hK93 _ _ <| wp_ret (then_r (blk_r (then_r (blk_r (then_r (blk_r (hR _ _ _ _ _ J (run_results Tryz.results12 (.cw J Y agg45 G (.t (.t (.t (.t (.t (.t (.t .h))))))) sz45 (Y) (.t J Y (.t J Y (.nil))))) ?_))))))))
        rw [hpl]
        exact ⟨_, z10, Y, runR A10 c10 (by kernel_rfl) hO10, G.one (.t (.t (.t (.t (.t .h)))))⟩
       have hok3 : ok3 = true := by (cases ok3; exact absurd rfl c22; rfl)
       refine wp_skip <| then_n (hK91 _ _ <| wp_region_lit <| sw J Y Y Y (R.loadW agg32 (J.ev Y) G .h sz32 (Y)) fun a J=> so (wn Y) (O.buildSlice (l := [_, _, _, _]) Y Y J Tryz.underlying33 inf32 Y Y (J.evp Y) (by decide) Y G fun b252 a w J G=> ?_))
       refine av J Y Y fun a J=> s0 <| blk_n ?_
       exact then_n (hK32' _ _ ⟨stk, [r3], _, asks, _, _, _, _, _, _, _, J.sub ⟨Y, Y, Y, Y, Y, Y, Y, Y, Y, Y, Y, trivial⟩, G.sel [5, 6, 0, 7, 8] Y Y, hO9, hO10, own_w1 b252 _, mid_sum hdo hC (hok hok3)⟩)
      refine dl Y (wn Y) (O.alloc Y Y J ze32 Y G fun b23 a w J G=> ⟨fun hD=> G.tail, ?_⟩)
      have hD := G.tail
      refine dl Y (wn Y) (O.call Y Y J ent44 (J.evs Y) G (sum2_calls (cAt F.code p) (uN F stk p 0) (uN F stk p 1) w hC (uN_lt hW 0) (uN_lt hW 1)) fun v s244 a w hR J G=> ⟨fun hD=> G.tail.tail, ?_⟩)
      obtain ⟨⟨r3, ok3, rfl, hok, hno⟩, rfl⟩ := hR
      have hD := G.tail.tail
      refine dm J Y Y Y fun a J=> dx J Y Y Y Y fun a J=> dx J Y Y Y Y fun a J=> dw Y (wn Y) (O.storeW sz32 (J.ev Y) (J.ev Y) (Y) Y (by simp [Value.oneCell']) G (.t .h) (Y) fun w G=> ?_)
      refine da J Y Y Y fun a J=> d0 <| then_n (hK90 _ _ <| wp_seq_k fun K94 hK94=> wp_seq_k fun K95 hK95=> wp_region_lit <| mv J Y Y fun a J=> sw J Y Y Y (R.as (u := .bool (decide (ok3 = false))) (R.not (J.ev Y)) (by cases ok3 <;> rfl)) fun a J=> s0 <| then_n (hK95 _ _ <| cD J Y (fun c22=> ?_) (fun c22=> ?_)))
      ·have hpl := play_err hc hcl (by decide) (hrun.trans (runN_err (e := 104) (sum_bad hdo hC (hno c22))))
       refine wp_seq_k fun K96 hK96=> wp_region_lit <| sw J Y Y Y (R.buildStr (l := [_, _, _, _, _]) Tryz.underlying45 ze45 pl45 (J.evp Y) Y) fun a J=> mv J Y Y fun a J=> so (wn Y) (O.storeW sz45 (J.ev Y) (J.ev Y) (Y) Y (by simp [Value.oneCell']) G (.t (.t (.t (.t (.t (.t (.t .h))))))) (Y) fun w G=> ?_)
       refine av J Y Y fun a J=> av J Y Y fun a J=> s0 <| then_n (hK96 _ _ <| wp_ret (then_r (blk_r (then_r (blk_r (then_r (blk_r (hR _ _ _ _ _ J (run_results Tryz.results12 (.cw J Y agg45 G (.t (.t (.t (.t (.t (.t (.t .h))))))) sz45 (Y) (.t J Y (.t J Y (.nil))))) ?_))))))))
       rw [hpl]
       exact ⟨_, z10, Y, runR A10 c10 (by kernel_rfl) hO10, G.one (.t (.t (.t (.t (.t .h)))))⟩
      have hok3 : ok3 = true := by (cases ok3; exact absurd rfl c22; rfl)
      refine wp_skip <| then_n (hK94 _ _ <| wp_region_lit <| sw J Y Y Y (R.loadW agg32 (J.ev Y) G (.t .h) sz32 (Y)) fun a J=> so (wn Y) (O.buildSlice (l := [_, _, _, _]) Y Y J Tryz.underlying33 inf32 Y Y (J.evp Y) (by decide) Y G fun b252 a w J G=> ?_))
      refine av J Y Y fun a J=> s0 <| blk_n ?_
      exact then_n (hK32' _ _ ⟨stk, [r3], _, asks, _, _, _, _, _, _, _, J.sub ⟨Y, Y, Y, Y, Y, Y, Y, Y, Y, Y, Y, trivial⟩, G.sel [5, 6, 0, 7, 8] Y Y, hO9, hO10, own_w1 b252 _, mid_sum hdo hC (hok hok3)⟩)
     have J := J.nowF (t := 228) rfl hCs
     refine wp_seq_k fun K97 hK97=> wp_region_lit <| eL J Y Y Y fun a J=> av J Y Y fun a J=> s0 <| then_n (hK97 _ _ <| cD J Y (fun hCs=> ?_) (fun hCs=> ?_))
     ·have J := J.nowT (t := 228) rfl hCs
      have hC : 6 ≤ cAt F.code p ∧ cAt F.code p ≤ 12 := by omega
      have htk := tk_sum hC
      refine wp_skip <| then_n (hK56 _ _ <| cT J Y <| wp_seq_k fun K98 hK98=> wp_draw2S G [(0, 0), (1, 0), (2, 0), (3, 1), (4, 0), (5, 0), (6, 1)] [[(7, 2), (8, 0), (9, 0), (10, 0), (11, 2), (12, 3), (13, 0)], [(11, 2), (7, 2), (8, 0), (9, 0), (10, 0), (12, 3), (13, 0)]] mix (by kernel_rfl) (hP.block.then.block.then.block.then) fun w G=> ?_)
      have hD := G
      refine dm J Y Y Y fun a J=> dm J Y Y Y fun a J=> dv J Y Y Y Y (fun w=> R.indexO Tryz.underlying33 sz32 (J.ev Y) (Rd.ne (hO136.rd G .h) (by rw [wcs_length, List.length_drop]; omega)) (J.ev Y) (by omega) (by omega)) fun a J=> ds J Y Y Y Y hD (fun w hD=> R.loadAO (cs := wc (uN F stk p 0)) agg32 (J.ev Y) (hO136.rd hD .h) sz32 Y (Nat.succ_pos _) (wcs_at (k := 0) (by omega) (by omega))) fun a J=> ?_
      refine dm J Y Y Y fun a J=> dv J Y Y Y Y (fun w=> R.indexO Tryz.underlying33 sz32 (J.ev Y) (Rd.ne (hO136.rd G .h) (by rw [wcs_length, List.length_drop]; omega)) (J.ev Y) (by omega) (by omega)) fun a J=> ds J Y Y Y Y hD (fun w hD=> R.loadAO (cs := wc (uN F stk p 1)) agg32 (J.ev Y) (hO136.rd hD .h) sz32 Y (Nat.succ_pos _) (wcs_at (k := 1) (by omega) (by omega))) fun a J=> ?_
      refine d0 <| alts2 ?_ ?_
      ·refine dl Y (wn Y) (O.call Y Y J ent44 (J.evs Y) G (sum2_calls (cAt F.code p) (uN F stk p 0) (uN F stk p 1) w hC (uN_lt hW 0) (uN_lt hW 1)) fun v s244 a w hR J G=> ⟨fun hD=> G.tail, ?_⟩)
       obtain ⟨⟨r3, ok3, rfl, hok, hno⟩, rfl⟩ := hR
       have hD := G.tail
       refine dm J Y Y Y fun a J=> dx J Y Y Y Y fun a J=> dx J Y Y Y Y fun a J=> dl Y (wn Y) (O.alloc Y Y J ze32 Y G fun b23 a w J G=> ⟨fun hD=> G.tail.tail, ?_⟩)
       have hD := G.tail.tail
       refine dw Y (wn Y) (O.storeW sz32 (J.ev Y) (J.ev Y) (Y) Y (by simp [Value.oneCell']) G .h (Y) fun w G=> ?_)
       refine da J Y Y Y fun a J=> d0 <| then_n (hK98 _ _ <| wp_seq_k fun K99 hK99=> wp_seq_k fun K100 hK100=> wp_region_lit <| mv J Y Y fun a J=> sw J Y Y Y (R.as (u := .bool (decide (ok3 = false))) (R.not (J.ev Y)) (by cases ok3 <;> rfl)) fun a J=> s0 <| then_n (hK100 _ _ <| cD J Y (fun c22=> ?_) (fun c22=> ?_)))
       ·have hpl := play_err hc hcl (by decide) (hrun.trans (runN_err (e := 104) (sum_bad hdo hC (hno c22))))
        refine wp_seq_k fun K101 hK101=> wp_region_lit <| sw J Y Y Y (R.buildStr (l := [_, _, _, _, _]) Tryz.underlying45 ze45 pl45 (J.evp Y) Y) fun a J=> mv J Y Y fun a J=> so (wn Y) (O.storeW sz45 (J.ev Y) (J.ev Y) (Y) Y (by simp [Value.oneCell']) G (.t (.t (.t (.t (.t (.t (.t .h))))))) (Y) fun w G=> ?_)
        refine av J Y Y fun a J=> av J Y Y fun a J=> s0 <| then_n (hK101 _ _ <| wp_ret (then_r (blk_r (then_r (blk_r (then_r (blk_r (hR _ _ _ _ _ J (run_results Tryz.results12 (.cw J Y agg45 G (.t (.t (.t (.t (.t (.t (.t .h))))))) sz45 (Y) (.t J Y (.t J Y (.nil))))) ?_))))))))
        rw [hpl]
        exact ⟨_, z10, Y, runR A10 c10 (by kernel_rfl) hO10, G.one (.t (.t (.t (.t (.t .h)))))⟩
       have hok3 : ok3 = true := by (cases ok3; exact absurd rfl c22; rfl)
       refine wp_skip <| then_n (hK99 _ _ <| wp_region_lit <| sw J Y Y Y (R.loadW agg32 (J.ev Y) G .h sz32 (Y)) fun a J=> so (wn Y) (O.buildSlice (l := [_, _, _, _]) Y Y J Tryz.underlying33 inf32 Y Y (J.evp Y) (by decide) Y G fun b252 a w J G=> ?_))
       refine av J Y Y fun a J=> s0 <| blk_n ?_
       exact then_n (hK32' _ _ ⟨stk, [r3], _, asks, _, _, _, _, _, _, _, J.sub ⟨Y, Y, Y, Y, Y, Y, Y, Y, Y, Y, Y, trivial⟩, G.sel [5, 6, 0, 7, 8] Y Y, hO9, hO10, own_w1 b252 _, mid_sum hdo hC (hok hok3)⟩)
      refine dl Y (wn Y) (O.alloc Y Y J ze32 Y G fun b23 a w J G=> ⟨fun hD=> G.tail, ?_⟩)
      have hD := G.tail
      refine dl Y (wn Y) (O.call Y Y J ent44 (J.evs Y) G (sum2_calls (cAt F.code p) (uN F stk p 0) (uN F stk p 1) w hC (uN_lt hW 0) (uN_lt hW 1)) fun v s244 a w hR J G=> ⟨fun hD=> G.tail.tail, ?_⟩)
      obtain ⟨⟨r3, ok3, rfl, hok, hno⟩, rfl⟩ := hR
      have hD := G.tail.tail
      refine dm J Y Y Y fun a J=> dx J Y Y Y Y fun a J=> dx J Y Y Y Y fun a J=> dw Y (wn Y) (O.storeW sz32 (J.ev Y) (J.ev Y) (Y) Y (by simp [Value.oneCell']) G (.t .h) (Y) fun w G=> ?_)
      refine da J Y Y Y fun a J=> d0 <| then_n (hK98 _ _ <| wp_seq_k fun K102 hK102=> wp_seq_k fun K103 hK103=> wp_region_lit <| mv J Y Y fun a J=> sw J Y Y Y (R.as (u := .bool (decide (ok3 = false))) (R.not (J.ev Y)) (by cases ok3 <;> rfl)) fun a J=> s0 <| then_n (hK103 _ _ <| cD J Y (fun c22=> ?_) (fun c22=> ?_)))
      ·have hpl := play_err hc hcl (by decide) (hrun.trans (runN_err (e := 104) (sum_bad hdo hC (hno c22))))
       refine wp_seq_k fun K104 hK104=> wp_region_lit <| sw J Y Y Y (R.buildStr (l := [_, _, _, _, _]) Tryz.underlying45 ze45 pl45 (J.evp Y) Y) fun a J=> mv J Y Y fun a J=> so (wn Y) (O.storeW sz45 (J.ev Y) (J.ev Y) (Y) Y (by simp [Value.oneCell']) G (.t (.t (.t (.t (.t (.t (.t .h))))))) (Y) fun w G=> ?_)
       refine av J Y Y fun a J=> av J Y Y fun a J=> s0 <| then_n (hK104 _ _ <| wp_ret (then_r (blk_r (then_r (blk_r (then_r (blk_r (hR _ _ _ _ _ J (run_results Tryz.results12 (.cw J Y agg45 G (.t (.t (.t (.t (.t (.t (.t .h))))))) sz45 (Y) (.t J Y (.t J Y (.nil))))) ?_))))))))
       rw [hpl]
       exact ⟨_, z10, Y, runR A10 c10 (by kernel_rfl) hO10, G.one (.t (.t (.t (.t (.t .h)))))⟩
      have hok3 : ok3 = true := by (cases ok3; exact absurd rfl c22; rfl)
      refine wp_skip <| then_n (hK102 _ _ <| wp_region_lit <| sw J Y Y Y (R.loadW agg32 (J.ev Y) G (.t .h) sz32 (Y)) fun a J=> so (wn Y) (O.buildSlice (l := [_, _, _, _]) Y Y J Tryz.underlying33 inf32 Y Y (J.evp Y) (by decide) Y G fun b252 a w J G=> ?_))
      refine av J Y Y fun a J=> s0 <| blk_n ?_
      exact then_n (hK32' _ _ ⟨stk, [r3], _, asks, _, _, _, _, _, _, _, J.sub ⟨Y, Y, Y, Y, Y, Y, Y, Y, Y, Y, Y, trivial⟩, G.sel [5, 6, 0, 7, 8] Y Y, hO9, hO10, own_w1 b252 _, mid_sum hdo hC (hok hok3)⟩)
     have J := J.nowF (t := 228) rfl hCs
     refine wp_region_lit <| eL J Y Y Y fun a J=> av J Y Y fun a J=> s0 <| then_n (hK56 _ _ <| cD J Y (fun hCs=> ?_) (fun hCs=> ?_))
     ·have J := J.nowT (t := 228) rfl hCs
      have hC : 6 ≤ cAt F.code p ∧ cAt F.code p ≤ 12 := by omega
      have htk := tk_sum hC
      refine wp_seq_k fun K105 hK105=> wp_draw2S G [(0, 0), (1, 0), (2, 0), (3, 1), (4, 0), (5, 0), (6, 1)] [[(7, 2), (8, 0), (9, 0), (10, 0), (11, 2), (12, 3), (13, 0)], [(11, 2), (7, 2), (8, 0), (9, 0), (10, 0), (12, 3), (13, 0)]] mix (by kernel_rfl) (hP.block.then.block.then.block.then) fun w G=> ?_
      have hD := G
      refine dm J Y Y Y fun a J=> dm J Y Y Y fun a J=> dv J Y Y Y Y (fun w=> R.indexO Tryz.underlying33 sz32 (J.ev Y) (Rd.ne (hO136.rd G .h) (by rw [wcs_length, List.length_drop]; omega)) (J.ev Y) (by omega) (by omega)) fun a J=> ds J Y Y Y Y hD (fun w hD=> R.loadAO (cs := wc (uN F stk p 0)) agg32 (J.ev Y) (hO136.rd hD .h) sz32 Y (Nat.succ_pos _) (wcs_at (k := 0) (by omega) (by omega))) fun a J=> ?_
      refine dm J Y Y Y fun a J=> dv J Y Y Y Y (fun w=> R.indexO Tryz.underlying33 sz32 (J.ev Y) (Rd.ne (hO136.rd G .h) (by rw [wcs_length, List.length_drop]; omega)) (J.ev Y) (by omega) (by omega)) fun a J=> ds J Y Y Y Y hD (fun w hD=> R.loadAO (cs := wc (uN F stk p 1)) agg32 (J.ev Y) (hO136.rd hD .h) sz32 Y (Nat.succ_pos _) (wcs_at (k := 1) (by omega) (by omega))) fun a J=> ?_
      refine d0 <| alts2 ?_ ?_
      ·refine dl Y (wn Y) (O.call Y Y J ent44 (J.evs Y) G (sum2_calls (cAt F.code p) (uN F stk p 0) (uN F stk p 1) w hC (uN_lt hW 0) (uN_lt hW 1)) fun v s244 a w hR J G=> ⟨fun hD=> G.tail, ?_⟩)
       obtain ⟨⟨r3, ok3, rfl, hok, hno⟩, rfl⟩ := hR
       have hD := G.tail
       refine dm J Y Y Y fun a J=> dx J Y Y Y Y fun a J=> dx J Y Y Y Y fun a J=> dl Y (wn Y) (O.alloc Y Y J ze32 Y G fun b23 a w J G=> ⟨fun hD=> G.tail.tail, ?_⟩)
       have hD := G.tail.tail
       refine dw Y (wn Y) (O.storeW sz32 (J.ev Y) (J.ev Y) (Y) Y (by simp [Value.oneCell']) G .h (Y) fun w G=> ?_)
       refine da J Y Y Y fun a J=> d0 <| then_n (hK105 _ _ <| wp_seq_k fun K106 hK106=> wp_seq_k fun K107 hK107=> wp_region_lit <| mv J Y Y fun a J=> sw J Y Y Y (R.as (u := .bool (decide (ok3 = false))) (R.not (J.ev Y)) (by cases ok3 <;> rfl)) fun a J=> s0 <| then_n (hK107 _ _ <| cD J Y (fun c22=> ?_) (fun c22=> ?_)))
       ·have hpl := play_err hc hcl (by decide) (hrun.trans (runN_err (e := 104) (sum_bad hdo hC (hno c22))))
        refine wp_seq_k fun K108 hK108=> wp_region_lit <| sw J Y Y Y (R.buildStr (l := [_, _, _, _, _]) Tryz.underlying45 ze45 pl45 (J.evp Y) Y) fun a J=> mv J Y Y fun a J=> so (wn Y) (O.storeW sz45 (J.ev Y) (J.ev Y) (Y) Y (by simp [Value.oneCell']) G (.t (.t (.t (.t (.t (.t (.t .h))))))) (Y) fun w G=> ?_)
        refine av J Y Y fun a J=> av J Y Y fun a J=> s0 <| then_n (hK108 _ _ <| wp_ret (then_r (blk_r (then_r (blk_r (then_r (blk_r (hR _ _ _ _ _ J (run_results Tryz.results12 (.cw J Y agg45 G (.t (.t (.t (.t (.t (.t (.t .h))))))) sz45 (Y) (.t J Y (.t J Y (.nil))))) ?_))))))))
        rw [hpl]
        exact ⟨_, z10, Y, runR A10 c10 (by kernel_rfl) hO10, G.one (.t (.t (.t (.t (.t .h)))))⟩
       have hok3 : ok3 = true := by (cases ok3; exact absurd rfl c22; rfl)
       refine wp_skip <| then_n (hK106 _ _ <| wp_region_lit <| sw J Y Y Y (R.loadW agg32 (J.ev Y) G .h sz32 (Y)) fun a J=> so (wn Y) (O.buildSlice (l := [_, _, _, _]) Y Y J Tryz.underlying33 inf32 Y Y (J.evp Y) (by decide) Y G fun b252 a w J G=> ?_))
       refine av J Y Y fun a J=> s0 <| blk_n ?_
       exact then_n (hK32' _ _ ⟨stk, [r3], _, asks, _, _, _, _, _, _, _, J.sub ⟨Y, Y, Y, Y, Y, Y, Y, Y, Y, Y, Y, trivial⟩, G.sel [5, 6, 0, 7, 8] Y Y, hO9, hO10, own_w1 b252 _, mid_sum hdo hC (hok hok3)⟩)
      refine dl Y (wn Y) (O.alloc Y Y J ze32 Y G fun b23 a w J G=> ⟨fun hD=> G.tail, ?_⟩)
      have hD := G.tail
      refine dl Y (wn Y) (O.call Y Y J ent44 (J.evs Y) G (sum2_calls (cAt F.code p) (uN F stk p 0) (uN F stk p 1) w hC (uN_lt hW 0) (uN_lt hW 1)) fun v s244 a w hR J G=> ⟨fun hD=> G.tail.tail, ?_⟩)
      obtain ⟨⟨r3, ok3, rfl, hok, hno⟩, rfl⟩ := hR
      have hD := G.tail.tail
      refine dm J Y Y Y fun a J=> dx J Y Y Y Y fun a J=> dx J Y Y Y Y fun a J=> dw Y (wn Y) (O.storeW sz32 (J.ev Y) (J.ev Y) (Y) Y (by simp [Value.oneCell']) G (.t .h) (Y) fun w G=> ?_)
      refine da J Y Y Y fun a J=> d0 <| then_n (hK105 _ _ <| wp_seq_k fun K109 hK109=> wp_seq_k fun K110 hK110=> wp_region_lit <| mv J Y Y fun a J=> sw J Y Y Y (R.as (u := .bool (decide (ok3 = false))) (R.not (J.ev Y)) (by cases ok3 <;> rfl)) fun a J=> s0 <| then_n (hK110 _ _ <| cD J Y (fun c22=> ?_) (fun c22=> ?_)))
      ·have hpl := play_err hc hcl (by decide) (hrun.trans (runN_err (e := 104) (sum_bad hdo hC (hno c22))))
       refine wp_seq_k fun K111 hK111=> wp_region_lit <| sw J Y Y Y (R.buildStr (l := [_, _, _, _, _]) Tryz.underlying45 ze45 pl45 (J.evp Y) Y) fun a J=> mv J Y Y fun a J=> so (wn Y) (O.storeW sz45 (J.ev Y) (J.ev Y) (Y) Y (by simp [Value.oneCell']) G (.t (.t (.t (.t (.t (.t (.t .h))))))) (Y) fun w G=> ?_)
       refine av J Y Y fun a J=> av J Y Y fun a J=> s0 <| then_n (hK111 _ _ <| wp_ret (then_r (blk_r (then_r (blk_r (then_r (blk_r (hR _ _ _ _ _ J (run_results Tryz.results12 (.cw J Y agg45 G (.t (.t (.t (.t (.t (.t (.t .h))))))) sz45 (Y) (.t J Y (.t J Y (.nil))))) ?_))))))))
       rw [hpl]
       exact ⟨_, z10, Y, runR A10 c10 (by kernel_rfl) hO10, G.one (.t (.t (.t (.t (.t .h)))))⟩
      have hok3 : ok3 = true := by (cases ok3; exact absurd rfl c22; rfl)
      refine wp_skip <| then_n (hK109 _ _ <| wp_region_lit <| sw J Y Y Y (R.loadW agg32 (J.ev Y) G (.t .h) sz32 (Y)) fun a J=> so (wn Y) (O.buildSlice (l := [_, _, _, _]) Y Y J Tryz.underlying33 inf32 Y Y (J.evp Y) (by decide) Y G fun b252 a w J G=> ?_))
      refine av J Y Y fun a J=> s0 <| blk_n ?_
      exact then_n (hK32' _ _ ⟨stk, [r3], _, asks, _, _, _, _, _, _, _, J.sub ⟨Y, Y, Y, Y, Y, Y, Y, Y, Y, Y, Y, trivial⟩, G.sel [5, 6, 0, 7, 8] Y Y, hO9, hO10, own_w1 b252 _, mid_sum hdo hC (hok hok3)⟩)
     have J := J.nowF (t := 228) rfl hCs
     refine wp_seq_k fun K112 hK112=> wp_region_lit <| eL J Y Y Y fun a J=> av J Y Y fun a J=> s0 <| then_n (hK112 _ _ <| cD J Y (fun hC13=> ?_) (fun hC13=> ?_))
     ·have htk : takesN (cAt F.code p) = takesN 13 := tk_is (by omega); rw [show takesN 13 = 1 from rfl] at htk
      refine wp_region_lit <| mv J Y Y fun a J=> sw J Y Y Y (R.indexO Tryz.underlying33 sz32 (J.ev Y) (Rd.ne (hO136.rd G .h) (by rw [wcs_length, List.length_drop]; omega)) (J.ev Y) (by omega) (by omega)) fun a J=> sw J Y Y Y (R.loadAO (cs := wc (uN F stk p 0)) agg32 (J.ev Y) (hO136.rd G .h) sz32 Y (Nat.succ_pos _) (wcs_at (k := 0) (by omega) (by omega))) fun a J=> so (wn Y) (O.call Y Y J ent46 (J.evs Y) G (nought_calls (uN F stk p 0) w (uN_lt hW 0)) fun v s258 a w hR J G=> ?_)
      obtain ⟨rfl, rfl⟩ := hR
      refine so (wn Y) (O.call Y Y J ent45 (J.evs Y) G (rtruth_calls (uN F stk p 0 = 0) w) fun v s259 a w hR J G=> ?_)
      obtain ⟨rfl, rfl⟩ := hR
      refine so (wn Y) (O.buildSlice (l := [_, _, _, _]) Y Y J Tryz.underlying33 inf32 Y Y (J.evp Y) (by decide) Y G fun b260 a w J G=> ?_)
      refine av J Y Y fun a J=> s0 <| blk_n ?_
      exact then_n (hK32' _ _ ⟨stk, [bit1 (decide (uN F stk p 0 = 0))], _, asks, _, _, _, _, _, _, _, J.sub ⟨Y, Y, Y, Y, Y, Y, Y, Y, Y, Y, Y, trivial⟩, G.sel [5, 6, 0, 7, 8] Y Y, hO9, hO10, own_w1 b260 _, mid_not hdo (by omega)⟩)
     refine wp_seq_k fun K113 hK113=> wp_region_lit <| eL J Y Y Y fun a J=> av J Y Y fun a J=> s0 <| then_n (hK113 _ _ <| cD J Y (fun hC14=> ?_) (fun hC14=> ?_))
     ·have hsz3 := sz_three hs (by omega)
      refine wp_region_lit <| mv J Y Y fun a J=> mv J Y Y fun a J=> so (wn Y) (O.call Y Y J ent30 (J.evs Y) G (rtarget_calls F.cA F.code.length F.cc F.code p w (hpi.code.old G) Y hpi.ok.cap hpi.ok.cap2 hpi.ok.byt (by omega)) fun v s265 a w hR J G=> ?_)
      obtain ⟨rfl, rfl⟩ := hR
      refine av J Y Y fun a J=> s0 <| blk_n ?_
      have G := G.cons0
      exact then_n (hK32' _ _ ⟨stk, [], _, asks, _, _, _, _, _, _, _, J.sub ⟨Y, Y, Y, Y, Y, Y, Y, Y, Y, Y, Y, trivial⟩, G.sel [4, 5, 0, 6, 7] Y Y, hO9, hO10, OwnS.nil 32 4, mid_jump hdo (by omega)⟩)
     refine wp_seq_k fun K114 hK114=> wp_region_lit <| eL J Y Y Y fun a J=> av J Y Y fun a J=> s0 <| then_n (hK114 _ _ <| cD J Y (fun hC15=> ?_) (fun hC15=> ?_))
     ·have htk : takesN (cAt F.code p) = takesN 15 := tk_is (by omega); rw [show takesN 15 = 1 from rfl] at htk
      have hsz3 := sz_three hs (by omega)
      refine wp_seq_k fun K115 hK115=> wp_region_lit <| mv J Y Y fun a J=> sw J Y Y Y (R.indexO Tryz.underlying33 sz32 (J.ev Y) (Rd.ne (hO136.rd G .h) (by rw [wcs_length, List.length_drop]; omega)) (J.ev Y) (by omega) (by omega)) fun a J=> sw J Y Y Y (R.loadAO (cs := wc (uN F stk p 0)) agg32 (J.ev Y) (hO136.rd G .h) sz32 Y (Nat.succ_pos _) (wcs_at (k := 0) (by omega) (by omega))) fun a J=> so (wn Y) (O.call Y Y J ent46 (J.evs Y) G (nought_calls (uN F stk p 0) w (uN_lt hW 0)) fun v s271 a w hR J G=> ?_)
      obtain ⟨rfl, rfl⟩ := hR
      refine sw J Y Y Y ((by first | exact R.notD (J.ev Y) | exact R.not (J.ev Y))) fun a J=> ?_
      refine s0 <| then_n (hK115 _ _ <| cD J Y (fun c26=> ?_) (fun c26=> ?_))
      ·refine wp_region_lit <| mv J Y Y fun a J=> mv J Y Y fun a J=> so (wn Y) (O.call Y Y J ent30 (J.evs Y) G (rtarget_calls F.cA F.code.length F.cc F.code p w (hpi.code.old G) Y hpi.ok.cap hpi.ok.cap2 hpi.ok.byt (by omega)) fun v s275 a w hR J G=> ?_)
       obtain ⟨rfl, rfl⟩ := hR
       refine av J Y Y fun a J=> s0 <| blk_n ?_
       have G := G.cons0
       exact then_n (hK32' _ _ ⟨stk, [], _, asks, _, _, _, _, _, _, _, J.sub ⟨Y, Y, Y, Y, Y, Y, Y, Y, Y, Y, Y, trivial⟩, G.sel [5, 6, 0, 7, 8] Y Y, hO9, hO10, OwnS.nil 32 4, mid_whenT hdo (by omega) c26⟩)
      refine wp_skip <| blk_n ?_
      have G := G.cons0
      exact then_n (hK32' _ _ ⟨stk, [], _, asks, _, _, _, _, _, _, _, J.sub ⟨Y, Y, Y, Y, Y, Y, Y, Y, Y, Y, Y, trivial⟩, G.sel [4, 5, 0, 6, 7] Y Y, hO9, hO10, OwnS.nil 32 4, mid_whenF hdo (by omega) c26⟩)
     refine wp_seq_k fun K116 hK116=> wp_region_lit <| eL J Y Y Y fun a J=> av J Y Y fun a J=> s0 <| then_n (hK116 _ _ <| cD J Y (fun hC24=> ?_) (fun hC24=> ?_))
     ·have htk : takesN (cAt F.code p) = takesN 24 := tk_is (by omega); rw [show takesN 24 = 1 from rfl] at htk
      refine wp_region_lit <| mv J Y Y fun a J=> mv J Y Y fun a J=> sw J Y Y Y (R.indexO Tryz.underlying33 sz32 (J.ev Y) (Rd.ne (hO136.rd G .h) (by rw [wcs_length, List.length_drop]; omega)) (J.ev Y) (by omega) (by omega)) fun a J=> sw J Y Y Y (R.loadAO (cs := wc (uN F stk p 0)) agg32 (J.ev Y) (hO136.rd G .h) sz32 Y (Nat.succ_pos _) (wcs_at (k := 0) (by omega) (by omega))) fun a J=> sw J Y Y Y (R.buildStr (l := askc ⟨1, uN F stk p 0, 0, 0, 0⟩) Tryz.underlying92 ze92 pl92 (J.evp Y) (by kernel_rfl)) fun a J=> so (wn Y) (O.buildSlice (l := askc ⟨1, uN F stk p 0, 0, 0, 0⟩) Y Y J Tryz.underlying41 inf92 Y Y (J.evp Y) (by decide) Y G fun b283 a w J G=> ?_)
      refine so (wn Y) (O.append Y Y J Tryz.underlying41 inf92 Y Y (by decide) (J.ev Y) (J.ev Y) G hO10 (fun _=> (.t (.t (.t (.t .h))))) (Rd.own0 G .h) (Y) (one_askc3 _) (by unfold maxLen; omega) (by omega) fun A284 c284 s284 a w hO284 J G=> ?_)
      refine av J Y Y fun a J=> s0 <| blk_n ?_
      have G := G.cons0
      exact then_n (hK32' _ _ ⟨stk, [], _, _, _, _, _, _, _, _, _, J.sub ⟨Y, Y, Y, Y, Y, (by rw [List.length_append]; rfl), Y, Y, Y, Y, Y, trivial⟩, G.sel [4, 5, 0, 6, 7] Y Y, hO9, own_askL hO284, OwnS.nil 32 4, mid_ask hdo (by omega) (ask_24 (by omega))⟩)
     refine wp_seq_k fun K117 hK117=> wp_region_lit <| eL J Y Y Y fun a J=> av J Y Y fun a J=> s0 <| then_n (hK117 _ _ <| cD J Y (fun hC25=> ?_) (fun hC25=> ?_))
     ·have htk : takesN (cAt F.code p) = takesN 25 := tk_is (by omega); rw [show takesN 25 = 2 from rfl] at htk
      refine wp_drawG G (G.sel [0] Y Y) [(0, 0), (1, 0), (2, 0), (3, 1), (4, 0), (5, 0), (6, 1), (7, 0), (8, 2), (9, 2), (10, 0)] mix (by kernel_rfl) (hP.block.then.block.then.block) fun w G hD=> ?_
      refine dm J Y Y Y fun a J=> dm J Y Y Y fun a J=> dv J Y Y Y Y (fun w=> R.indexO Tryz.underlying33 sz32 (J.ev Y) (Rd.ne (hO136.rd G .h) (by rw [wcs_length, List.length_drop]; omega)) (J.ev Y) (by omega) (by omega)) fun a J=> ds J Y Y Y Y hD (fun w hD=> R.loadAO (cs := wc (uN F stk p 0)) agg32 (J.ev Y) (hO136.rd hD .h) sz32 Y (Nat.succ_pos _) (wcs_at (k := 0) (by omega) (by omega))) fun a J=> ?_
      refine dm J Y Y Y fun a J=> dv J Y Y Y Y (fun w=> R.indexO Tryz.underlying33 sz32 (J.ev Y) (Rd.ne (hO136.rd G .h) (by rw [wcs_length, List.length_drop]; omega)) (J.ev Y) (by omega) (by omega)) fun a J=> ds J Y Y Y Y hD (fun w hD=> R.loadAO (cs := wc (uN F stk p 1)) agg32 (J.ev Y) (hO136.rd hD .h) sz32 Y (Nat.succ_pos _) (wcs_at (k := 1) (by omega) (by omega))) fun a J=> ?_
      refine dv J Y Y Y Y (fun w=> R.buildStr (l := askc ⟨2, uN F stk p 0, uN F stk p 1, 0, 0⟩) Tryz.underlying92 ze92 pl92 (J.evp Y) (by kernel_rfl)) fun a J=> dl Y (wn Y) (O.buildSlice (l := askc ⟨2, uN F stk p 0, uN F stk p 1, 0, 0⟩) Y Y J Tryz.underlying41 inf92 Y Y (J.evp Y) (by decide) Y G fun b295 a w J G=> ⟨fun hD=> G.sel [1] Y Y, ?_⟩)
      have hD := G.sel [1] rfl rfl
      refine dl Y (wn Y) (O.append Y Y J Tryz.underlying41 inf92 Y Y (by decide) (J.ev Y) (J.ev Y) G hO10 (fun _=> (.t (.t (.t (.t .h))))) (Rd.own0 G .h) (Y) (one_askc3 _) (by unfold maxLen; omega) (by omega) fun A296 c296 s296 a w hO296 J G=> ⟨fun hD=> G.sel [1] Y Y, ?_⟩)
      have hD := G.sel [1] rfl rfl
      refine da J Y Y Y fun a J=> d0 <| blk_n ?_
      have G := G.cons0
      exact then_n (hK32' _ _ ⟨stk, [], _, _, _, _, _, _, _, _, _, J.sub ⟨Y, Y, Y, Y, Y, (by rw [List.length_append]; rfl), Y, Y, Y, Y, Y, trivial⟩, G.sel [4, 5, 0, 6, 7] Y Y, hO9, own_askL hO296, OwnS.nil 32 4, mid_ask hdo (by omega) (ask_25 (by omega))⟩)
     refine wp_seq_k fun K118 hK118=> wp_seq_k fun K119 hK119=> wp_region_lit <| eL J Y Y Y fun a J=> av J Y Y fun a J=> s0 <| then_n (hK119 _ _ <| cD J Y (fun hCt=> ?_) (fun hCt=> ?_))
     ·have J := J.nowT (t := 297) rfl hCt
      have hC : cAt F.code p = 26 ∨ cAt F.code p = 27 := by omega
      have htk2 : 2 ≤ takesN (cAt F.code p) := by (rcases hC with h | h <;> rw [h] <;> decide)
      refine wp_skip <| then_n (hK118 _ _ <| cT J Y <| wp_seq_k fun K120 hK120=> wp_region_lit <| mv J Y Y fun a J=> sw J Y Y Y (R.indexO Tryz.underlying33 sz32 (J.ev Y) (Rd.ne (hO136.rd G .h) (by rw [wcs_length, List.length_drop]; omega)) (J.ev Y) (by omega) (by omega)) fun a J=> sw J Y Y Y (R.loadAO (cs := wc (uN F stk p 0)) agg32 (J.ev Y) (hO136.rd G .h) sz32 Y (Nat.succ_pos _) (wcs_at (k := 0) (by omega) (by omega))) fun a J=> so (wn Y) (O.call Y Y J ent47 (J.evs Y) G (token_calls (uN F stk p 0) w (uN_lt hW 0) (tok_iff (uN_lt hW 0))) fun v s303 a w hR J G=> ?_))
      obtain ⟨rfl, rfl⟩ := hR
      refine av J Y Y fun a J=> s0 <| then_n (hK120 _ _ <| wp_seq_k fun K121 hK121=> wp_seq_k fun K122 hK122=> wp_region_lit <| mv J Y Y fun a J=> lS J Y Y Y fun a J=> s0 <| then_n (hK122 _ _ <| cD J Y (fun c31=> ?_) (fun c31=> ?_)))
      ·have hv0 : ¬ uN F stk p 0 < 64 := fun h => by rw [if_pos h] at c31; omega
       have hpl := play_err hc hcl (by decide) (hrun.trans (runN_err (e := 104) (ask_bad hdo (by omega) (ask_no hC hv0))))
       refine wp_seq_k fun K123 hK123=> wp_region_lit <| sw J Y Y Y (R.buildStr (l := [_, _, _, _, _]) Tryz.underlying45 ze45 pl45 (J.evp Y) Y) fun a J=> mv J Y Y fun a J=> so (wn Y) (O.storeW sz45 (J.ev Y) (J.ev Y) (Y) Y (by simp [Value.oneCell']) G (.t (.t (.t (.t (.t (.t .h)))))) (Y) fun w G=> ?_)
       refine av J Y Y fun a J=> av J Y Y fun a J=> s0 <| then_n (hK123 _ _ <| wp_ret (then_r (blk_r (then_r (blk_r (then_r (blk_r (hR _ _ _ _ _ J (run_results Tryz.results12 (.cw J Y agg45 G (.t (.t (.t (.t (.t (.t .h)))))) sz45 (Y) (.t J Y (.t J Y (.nil))))) ?_))))))))
       rw [hpl]
       exact ⟨_, z10, Y, runR A10 c10 (by kernel_rfl) hO10, G.one (.t (.t (.t (.t .h))))⟩
      have hv0 : uN F stk p 0 < 64 := Classical.byContradiction fun h => c31 (by rw [if_neg h]; decide)
      rw [if_pos hv0] at J
      refine wp_skip <| then_n (hK121 _ _ <| wp_seq_k fun K124 hK124=> wp_region_lit <| mv J Y Y fun a J=> eL J Y Y Y fun a J=> s0 <| then_n (hK124 _ _ <| cD J Y (fun c32=> ?_) (fun c32=> ?_)))
      ·refine wp_region_lit <| mv J Y Y fun a J=> mv J Y Y fun a J=> mv J Y Y fun a J=> sw J Y Y Y (R.indexO Tryz.underlying33 sz32 (J.ev Y) (Rd.ne (hO136.rd G (.t .h)) (by rw [wcs_length, List.length_drop]; omega)) (J.ev Y) (by omega) (by omega)) fun a J=> sw J Y Y Y (R.loadAO (cs := wc (uN F stk p 1)) agg32 (J.ev Y) (hO136.rd G (.t .h)) sz32 Y (Nat.succ_pos _) (wcs_at (k := 1) (by omega) (by omega))) fun a J=> so (wn Y) (O.call Y Y J ent48 (J.evs Y) G (addr_calls (uN F stk p 1) w) fun v s315 a w hR J G=> ?_)
       obtain ⟨rfl, rfl⟩ := hR
       refine sw J Y Y Y (R.buildStr (l := askc ⟨3, 0, 0, uN F stk p 0, uN F stk p 1⟩) Tryz.underlying92 ze92 pl92 (J.evp Y) (by kernel_rfl)) fun a J=> so (wn Y) (O.buildSlice (l := askc ⟨3, 0, 0, uN F stk p 0, uN F stk p 1⟩) Y Y J Tryz.underlying41 inf92 Y Y (J.evp Y) (by decide) Y G fun b317 a w J G=> ?_)
       refine so (wn Y) (O.append Y Y J Tryz.underlying41 inf92 Y Y (by decide) (J.ev Y) (J.ev Y) G hO10 (fun _=> (.t (.t (.t (.t (.t (.t .h))))))) (Rd.own0 G .h) (Y) (one_askc3 _) (by unfold maxLen; omega) (by omega) fun A318 c318 s318 a w hO318 J G=> ?_)
       refine av J Y Y fun a J=> s0 <| blk_n ?_
       have G := G.cons0
       exact then_n (hK32' _ _ ⟨stk, [], _, _, _, _, _, _, _, _, _, J.sub ⟨Y, Y, Y, Y, Y, (by rw [List.length_append]; rfl), Y, Y, Y, Y, Y, trivial⟩, G.sel [6, 7, 0, 8, 9] Y Y, hO9, own_askL hO318, OwnS.nil 32 4, mid_ask hdo (by omega) (ask_26 (by omega) hv0)⟩)
      have htk : takesN (cAt F.code p) = takesN 27 := tk_is (by omega); rw [show takesN 27 = 3 from rfl] at htk
      refine wp_drawG G (G.sel [1] Y Y) [(0, 0), (1, 0), (2, 0), (3, 0), (4, 1), (6, 0), (7, 0), (8, 1), (5, 2), (9, 0), (10, 2), (11, 2), (12, 0)] mix (by kernel_rfl) (hP.block.then.block.then.block) fun w G hD=> ?_
      refine dm J Y Y Y fun a J=> dm J Y Y Y fun a J=> dm J Y Y Y fun a J=> dv J Y Y Y Y (fun w=> R.indexO Tryz.underlying33 sz32 (J.ev Y) (Rd.ne (hO136.rd G (.t .h)) (by rw [wcs_length, List.length_drop]; omega)) (J.ev Y) (by omega) (by omega)) fun a J=> ds J Y Y Y Y hD (fun w hD=> R.loadAO (cs := wc (uN F stk p 1)) agg32 (J.ev Y) (hO136.rd hD .h) sz32 Y (Nat.succ_pos _) (wcs_at (k := 1) (by omega) (by omega))) fun a J=> ?_
      refine dm J Y Y Y fun a J=> dv J Y Y Y Y (fun w=> R.indexO Tryz.underlying33 sz32 (J.ev Y) (Rd.ne (hO136.rd G (.t .h)) (by rw [wcs_length, List.length_drop]; omega)) (J.ev Y) (by omega) (by omega)) fun a J=> ds J Y Y Y Y hD (fun w hD=> R.loadAO (cs := wc (uN F stk p 2)) agg32 (J.ev Y) (hO136.rd hD .h) sz32 Y (Nat.succ_pos _) (wcs_at (k := 2) (by omega) (by omega))) fun a J=> ?_
      refine dl Y (wn Y) (O.call Y Y J ent48 (J.evs Y) G (addr_calls (uN F stk p 1) w) fun v s324 a w hR J G=> ⟨fun hD=> G.sel [2] Y Y, ?_⟩)
      obtain ⟨rfl, rfl⟩ := hR
      have hD := G.sel [2] rfl rfl
      refine dv J Y Y Y Y (fun w=> R.buildStr (l := askc ⟨4, uN F stk p 2, 0, uN F stk p 0, uN F stk p 1⟩) Tryz.underlying92 ze92 pl92 (J.evp Y) (by kernel_rfl)) fun a J=> dl Y (wn Y) (O.buildSlice (l := askc ⟨4, uN F stk p 2, 0, uN F stk p 0, uN F stk p 1⟩) Y Y J Tryz.underlying41 inf92 Y Y (J.evp Y) (by decide) Y G fun b329 a w J G=> ⟨fun hD=> G.sel [3] Y Y, ?_⟩)
      have hD := G.sel [3] rfl rfl
      refine dl Y (wn Y) (O.append Y Y J Tryz.underlying41 inf92 Y Y (by decide) (J.ev Y) (J.ev Y) G hO10 (fun _=> (.t (.t (.t (.t (.t (.t .h))))))) (Rd.own0 G .h) (Y) (one_askc3 _) (by unfold maxLen; omega) (by omega) fun A330 c330 s330 a w hO330 J G=> ⟨fun hD=> G.sel [3] Y Y, ?_⟩)
      have hD := G.sel [3] rfl rfl
      refine da J Y Y Y fun a J=> d0 <| blk_n ?_
      have G := G.cons0
      exact then_n (hK32' _ _ ⟨stk, [], _, _, _, _, _, _, _, _, _, J.sub ⟨Y, Y, Y, Y, Y, (by rw [List.length_append]; rfl), Y, Y, Y, Y, Y, trivial⟩, G.sel [6, 7, 0, 8, 9] Y Y, hO9, own_askL hO330, OwnS.nil 32 4, mid_ask hdo (by omega) (ask_27 (by omega) hv0)⟩)
     have J := J.nowF (t := 297) rfl hCt
     have hC9 : cAt F.code p ≠ 26 := by omega
     refine wp_region_lit <| eL J Y Y Y fun a J=> av J Y Y fun a J=> s0 <| then_n (hK118 _ _ <| cD J Y (fun hCt=> ?_) (fun hCt=> ?_))
     ·have J := J.nowT (t := 297) rfl hCt
      have hC : cAt F.code p = 26 ∨ cAt F.code p = 27 := by omega
      have htk2 : 2 ≤ takesN (cAt F.code p) := by (rcases hC with h | h <;> rw [h] <;> decide)
      refine wp_seq_k fun K125 hK125=> wp_region_lit <| mv J Y Y fun a J=> sw J Y Y Y (R.indexO Tryz.underlying33 sz32 (J.ev Y) (Rd.ne (hO136.rd G .h) (by rw [wcs_length, List.length_drop]; omega)) (J.ev Y) (by omega) (by omega)) fun a J=> sw J Y Y Y (R.loadAO (cs := wc (uN F stk p 0)) agg32 (J.ev Y) (hO136.rd G .h) sz32 Y (Nat.succ_pos _) (wcs_at (k := 0) (by omega) (by omega))) fun a J=> so (wn Y) (O.call Y Y J ent47 (J.evs Y) G (token_calls (uN F stk p 0) w (uN_lt hW 0) (tok_iff (uN_lt hW 0))) fun v s303 a w hR J G=> ?_)
      obtain ⟨rfl, rfl⟩ := hR
      refine av J Y Y fun a J=> s0 <| then_n (hK125 _ _ <| wp_seq_k fun K126 hK126=> wp_seq_k fun K127 hK127=> wp_region_lit <| mv J Y Y fun a J=> lS J Y Y Y fun a J=> s0 <| then_n (hK127 _ _ <| cD J Y (fun c31=> ?_) (fun c31=> ?_)))
      ·have hv0 : ¬ uN F stk p 0 < 64 := fun h => by rw [if_pos h] at c31; omega
       have hpl := play_err hc hcl (by decide) (hrun.trans (runN_err (e := 104) (ask_bad hdo (by omega) (ask_no hC hv0))))
       refine wp_seq_k fun K128 hK128=> wp_region_lit <| sw J Y Y Y (R.buildStr (l := [_, _, _, _, _]) Tryz.underlying45 ze45 pl45 (J.evp Y) Y) fun a J=> mv J Y Y fun a J=> so (wn Y) (O.storeW sz45 (J.ev Y) (J.ev Y) (Y) Y (by simp [Value.oneCell']) G (.t (.t (.t (.t (.t (.t .h)))))) (Y) fun w G=> ?_)
       refine av J Y Y fun a J=> av J Y Y fun a J=> s0 <| then_n (hK128 _ _ <| wp_ret (then_r (blk_r (then_r (blk_r (then_r (blk_r (hR _ _ _ _ _ J (run_results Tryz.results12 (.cw J Y agg45 G (.t (.t (.t (.t (.t (.t .h)))))) sz45 (Y) (.t J Y (.t J Y (.nil))))) ?_))))))))
       rw [hpl]
       exact ⟨_, z10, Y, runR A10 c10 (by kernel_rfl) hO10, G.one (.t (.t (.t (.t .h))))⟩
      have hv0 : uN F stk p 0 < 64 := Classical.byContradiction fun h => c31 (by rw [if_neg h]; decide)
      rw [if_pos hv0] at J
      refine wp_skip <| then_n (hK126 _ _ <| wp_seq_k fun K129 hK129=> wp_region_lit <| mv J Y Y fun a J=> eL J Y Y Y fun a J=> s0 <| then_n (hK129 _ _ <| cD J Y (fun c32=> ?_) (fun c32=> ?_)))
      ·refine wp_region_lit <| mv J Y Y fun a J=> mv J Y Y fun a J=> mv J Y Y fun a J=> sw J Y Y Y (R.indexO Tryz.underlying33 sz32 (J.ev Y) (Rd.ne (hO136.rd G (.t .h)) (by rw [wcs_length, List.length_drop]; omega)) (J.ev Y) (by omega) (by omega)) fun a J=> sw J Y Y Y (R.loadAO (cs := wc (uN F stk p 1)) agg32 (J.ev Y) (hO136.rd G (.t .h)) sz32 Y (Nat.succ_pos _) (wcs_at (k := 1) (by omega) (by omega))) fun a J=> so (wn Y) (O.call Y Y J ent48 (J.evs Y) G (addr_calls (uN F stk p 1) w) fun v s315 a w hR J G=> ?_)
       obtain ⟨rfl, rfl⟩ := hR
       refine sw J Y Y Y (R.buildStr (l := askc ⟨3, 0, 0, uN F stk p 0, uN F stk p 1⟩) Tryz.underlying92 ze92 pl92 (J.evp Y) (by kernel_rfl)) fun a J=> so (wn Y) (O.buildSlice (l := askc ⟨3, 0, 0, uN F stk p 0, uN F stk p 1⟩) Y Y J Tryz.underlying41 inf92 Y Y (J.evp Y) (by decide) Y G fun b317 a w J G=> ?_)
       refine so (wn Y) (O.append Y Y J Tryz.underlying41 inf92 Y Y (by decide) (J.ev Y) (J.ev Y) G hO10 (fun _=> (.t (.t (.t (.t (.t (.t .h))))))) (Rd.own0 G .h) (Y) (one_askc3 _) (by unfold maxLen; omega) (by omega) fun A318 c318 s318 a w hO318 J G=> ?_)
       refine av J Y Y fun a J=> s0 <| blk_n ?_
       have G := G.cons0
       exact then_n (hK32' _ _ ⟨stk, [], _, _, _, _, _, _, _, _, _, J.sub ⟨Y, Y, Y, Y, Y, (by rw [List.length_append]; rfl), Y, Y, Y, Y, Y, trivial⟩, G.sel [6, 7, 0, 8, 9] Y Y, hO9, own_askL hO318, OwnS.nil 32 4, mid_ask hdo (by omega) (ask_26 (by omega) hv0)⟩)
      have htk : takesN (cAt F.code p) = takesN 27 := tk_is (by omega); rw [show takesN 27 = 3 from rfl] at htk
      refine wp_drawG G (G.sel [1] Y Y) [(0, 0), (1, 0), (2, 0), (3, 0), (4, 1), (6, 0), (7, 0), (8, 1), (5, 2), (9, 0), (10, 2), (11, 2), (12, 0)] mix (by kernel_rfl) (hP.block.then.block.then.block) fun w G hD=> ?_
      refine dm J Y Y Y fun a J=> dm J Y Y Y fun a J=> dm J Y Y Y fun a J=> dv J Y Y Y Y (fun w=> R.indexO Tryz.underlying33 sz32 (J.ev Y) (Rd.ne (hO136.rd G (.t .h)) (by rw [wcs_length, List.length_drop]; omega)) (J.ev Y) (by omega) (by omega)) fun a J=> ds J Y Y Y Y hD (fun w hD=> R.loadAO (cs := wc (uN F stk p 1)) agg32 (J.ev Y) (hO136.rd hD .h) sz32 Y (Nat.succ_pos _) (wcs_at (k := 1) (by omega) (by omega))) fun a J=> ?_
      refine dm J Y Y Y fun a J=> dv J Y Y Y Y (fun w=> R.indexO Tryz.underlying33 sz32 (J.ev Y) (Rd.ne (hO136.rd G (.t .h)) (by rw [wcs_length, List.length_drop]; omega)) (J.ev Y) (by omega) (by omega)) fun a J=> ds J Y Y Y Y hD (fun w hD=> R.loadAO (cs := wc (uN F stk p 2)) agg32 (J.ev Y) (hO136.rd hD .h) sz32 Y (Nat.succ_pos _) (wcs_at (k := 2) (by omega) (by omega))) fun a J=> ?_
      refine dl Y (wn Y) (O.call Y Y J ent48 (J.evs Y) G (addr_calls (uN F stk p 1) w) fun v s324 a w hR J G=> ⟨fun hD=> G.sel [2] Y Y, ?_⟩)
      obtain ⟨rfl, rfl⟩ := hR
      have hD := G.sel [2] rfl rfl
      refine dv J Y Y Y Y (fun w=> R.buildStr (l := askc ⟨4, uN F stk p 2, 0, uN F stk p 0, uN F stk p 1⟩) Tryz.underlying92 ze92 pl92 (J.evp Y) (by kernel_rfl)) fun a J=> dl Y (wn Y) (O.buildSlice (l := askc ⟨4, uN F stk p 2, 0, uN F stk p 0, uN F stk p 1⟩) Y Y J Tryz.underlying41 inf92 Y Y (J.evp Y) (by decide) Y G fun b329 a w J G=> ⟨fun hD=> G.sel [3] Y Y, ?_⟩)
      have hD := G.sel [3] rfl rfl
      refine dl Y (wn Y) (O.append Y Y J Tryz.underlying41 inf92 Y Y (by decide) (J.ev Y) (J.ev Y) G hO10 (fun _=> (.t (.t (.t (.t (.t (.t .h))))))) (Rd.own0 G .h) (Y) (one_askc3 _) (by unfold maxLen; omega) (by omega) fun A330 c330 s330 a w hO330 J G=> ⟨fun hD=> G.sel [3] Y Y, ?_⟩)
      have hD := G.sel [3] rfl rfl
      refine da J Y Y Y fun a J=> d0 <| blk_n ?_
      have G := G.cons0
      exact then_n (hK32' _ _ ⟨stk, [], _, _, _, _, _, _, _, _, _, J.sub ⟨Y, Y, Y, Y, Y, (by rw [List.length_append]; rfl), Y, Y, Y, Y, Y, trivial⟩, G.sel [6, 7, 0, 8, 9] Y Y, hO9, own_askL hO330, OwnS.nil 32 4, mid_ask hdo (by omega) (ask_27 (by omega) hv0)⟩)
     have J := J.nowF (t := 297) rfl hCt
     have hC9 : cAt F.code p ≠ 26 := by omega
     have hC : 16 ≤ cAt F.code p ∧ cAt F.code p ≤ 23 := by omega
     refine wp_region_lit <| mv J Y Y fun a J=> mv J Y Y fun a J=> sw J Y Y Y (R.loadW agg35 (J.ev Y) G (.t (.t (.t (.t .h)))) sz35 (Y)) fun a J=> mv J Y Y fun a J=> so (wn Y) (O.call Y Y J ent49 (J.evs Y) G (told_calls F (cAt F.code p) ob (left - priceN (cAt F.code p)) w hC hK (hpi.args.old G) (by omega) hob2) fun v s145 a w hR J G=> ?_)
     obtain ⟨rfl, rfl⟩ := hR
     refine so (wn Y) (O.buildSlice (l := [_, _, _, _]) Y Y J Tryz.underlying33 inf32 Y Y (J.evp Y) (by decide) Y G fun b146 a w J G=> ?_)
     refine av J Y Y fun a J=> s0 <| blk_n ?_
     exact then_n (hK32' _ _ ⟨stk, [toldN F.cl (cAt F.code p) ob (left - priceN (cAt F.code p))], _, asks, _, _, _, _, _, _, _, J.sub ⟨Y, Y, Y, Y, Y, Y, Y, Y, Y, Y, Y, trivial⟩, G.sel [4, 5, 0, 6, 7] Y Y, hO9, hO10, own_w1 b146 _, mid_told hdo hC (fun h => hob (sz_two hs (by omega)))⟩)
    refine wp_region_lit <| mv J Y Y fun a J=> sw J Y Y Y (R.len Tryz.underlying33 (J.ev Y)) fun a J=> mv J Y Y fun a J=> lS J Y Y Y fun a J=> mv J Y Y fun a J=> J.splitD (t := 114) Y (fun h114 J=> ?_) (fun h114 J=> ?_)
    ·refine kz J Y Y Y Y Y Y fun a J=> kz J Y Y Y Y Y Y fun a J=> kz J Y Y Y Y Y Y fun a J=> kz J Y Y Y Y Y Y fun a J=> kz J Y Y Y Y Y Y fun a J=> kz J Y Y Y Y Y Y fun a J=> kz J Y Y Y Y Y Y fun a J=> kz J Y Y Y Y Y Y fun a J=> kz J Y Y Y Y Y Y fun a J=> pT J Y Y Y fun a J=> s0 ?_
     exact then_n (hK26' _ _ ⟨J.sub ⟨Y, Y, Y, Y, Y, Y, Y, Y, Y, Y, Y, (congrArg (fun z => some (Value.bool z)) (by first | exact (decide_eq_true (by omega)).symm | exact (decide_eq_false (by omega)).symm | exact decide_eq_decide.2 (by omega))), trivial⟩, G.sel [0, 1, 2, 3] Y Y⟩)
    refine my J Y Y Y Y fun a J=> sv' J (wy J Y Y Y) Y Y (R.len Tryz.underlying33 (J.ev Y)) fun a J=> my J Y Y Y Y fun a J=> so (wy J Y Y Y) (O.call Y Y J ent42 (J.evs Y) G (wants_calls (cAt F.code p) w h28) fun v s118 a w hR J G=> ?_)
    obtain ⟨rfl, rfl⟩ := hR
    refine sv' J (wy J Y Y Y) Y Y (R.subI (J.ev Y) (J.ev Y) (by omega)) fun a J=> my J Y Y Y Y fun a J=> so (wy J Y Y Y) (O.call Y Y J ent43 (J.evs Y) G (leaves_calls (cAt F.code p) w h28) fun v s121 a w hR J G=> ?_)
    obtain ⟨rfl, rfl⟩ := hR
    refine sv' J (wy J Y Y Y) Y Y (R.addI (J.ev Y) (J.ev Y) (by omega)) fun a J=> sv' J (wy J Y Y Y) Y Y (R.gtr (J.ev Y) (J.ev Y)) fun a J=> pF J Y Y Y fun a J=> s0 ?_
    exact then_n (hK26' _ _ ⟨J.sub ⟨Y, Y, Y, Y, Y, Y, Y, Y, Y, Y, Y, (congrArg (fun z => some (Value.bool z)) (by first | exact (decide_eq_true (by omega)).symm | exact (decide_eq_false (by omega)).symm | exact decide_eq_decide.2 (by omega))), trivial⟩, G.sel [2, 3, 4, 5] Y Y⟩)
   refine wp_seq_k fun K130 hK130=> wp_region_lit <| mv J Y Y fun a J=> eL J Y Y Y fun a J=> mv J Y Y fun a J=> J.splitD (t := 104) Y (fun h104 J=> ?_) (fun h104 J=> ?_)
   ·refine kz J Y Y Y Y Y Y fun a J=> kz J Y Y Y Y Y Y fun a J=> pT J Y Y Y fun a J=> s0 <| then_n (hK130 _ _ <| cT J Y <| wp_region_lit <| mv J Y Y fun a J=> aI J Y Y Y (by omega) fun a J=> av J Y Y fun a J=> s0 ?_)
    exact then_n (hK24' _ _ ⟨J.sub ⟨Y, Y, Y, Y, Y, Y, Y, Y, Y, Y, Y, (congrArg (fun z => some (Value.int .i64 z)) (by have := deep_45 (code := F.code) (p := p) (by omega); have := hob (sz_two hs (by omega)); omega)), trivial⟩, G.sel [1, 2, 3, 4] Y Y⟩)
   refine my J Y Y Y Y fun a J=> sv' J (wy J Y Y Y) Y Y (R.eql (J.ev Y) (J.ev Y)) fun a J=> pF J Y Y Y fun a J=> s0 <| then_n (hK130 _ _ <| cD J Y (fun c6=> ?_) (fun c6=> ?_))
   ·refine wp_region_lit <| mv J Y Y fun a J=> aI J Y Y Y (by omega) fun a J=> av J Y Y fun a J=> s0 ?_
    exact then_n (hK24' _ _ ⟨J.sub ⟨Y, Y, Y, Y, Y, Y, Y, Y, Y, Y, Y, (congrArg (fun z => some (Value.int .i64 z)) (by have := deep_45 (code := F.code) (p := p) (by omega); have := hob (sz_two hs (by omega)); omega)), trivial⟩, G.sel [1, 2, 3, 4] Y Y⟩)
   refine wp_skip ?_
   exact then_n (hK24' _ _ ⟨J.sub ⟨Y, Y, Y, Y, Y, Y, Y, Y, Y, Y, Y, (congrArg (fun z => some (Value.int .i64 z)) (by have := deep_no (code := F.code) (p := p) (by omega); omega)), trivial⟩, G.sel [1, 2, 3, 4] Y Y⟩)
  refine wp_seq_k fun K131 hK131=> wp_region_lit <| mv J Y Y fun a J=> eL J Y Y Y fun a J=> s0 <| then_n (hK131 _ _ <| cD J Y (fun c5=> ?_) (fun c5=> ?_))
  ·refine wp_region_lit <| mv J Y Y fun a J=> mv J Y Y fun a J=> aI J Y Y Y (by omega) fun a J=> sw J Y Y Y (R.indexO Tryz.underlying22 sz5 (J.ev Y) (Rd.ne hpi.code (by rw [length_byts]; omega)) (J.ev Y) (by omega) (by omega)) fun a J=> sw J Y Y Y (R.loadO one5 (J.ev Y) (hpi.code.old G) (cb_at (i := p + 1) (by omega) (by omega))) fun a J=> sw J Y Y Y (R.convI Tryz.underlying5 Tryz.underlying3 (J.ev Y) (by omega)) fun a J=> av J Y Y fun a J=> s0 ?_
   exact then_n (hK22' _ _ ⟨cAt F.code (p + 1), J.sub ⟨Y, Y, Y, Y, Y, Y, Y, Y, Y, Y, Y, trivial⟩, G.sel [3, 4, 5, 6] Y Y, fun _ => rfl, by omega⟩)
  refine wp_skip ?_
  exact then_n (hK22' _ _ ⟨0, J.sub ⟨Y, Y, Y, Y, Y, Y, Y, Y, Y, Y, Y, trivial⟩, G.sel [3, 4, 5, 6] Y Y, fun h => absurd h (by omega), by omega⟩)
 refine wp_region_lit <| sw J Y Y Y (R.fieldAddr (k := 40) Tryz.underlying35 Y nz3 (J.ev Y) Y) fun a J=> sw J Y Y Y (R.load one3 (J.ev Y) G (.t (.t .h)) (Y)) fun a J=> lS J Y Y Y fun a J=> mv J Y Y fun a J=> J.splitD (t := 34) Y (fun h34 J=> ?_) (fun h34 J=> ?_)
 ·refine kz J Y Y Y Y Y Y fun a J=> kz J Y Y Y Y Y Y fun a J=> kz J Y Y Y Y Y Y fun a J=> pT J Y Y Y fun a J=> mv J Y Y fun a J=> kz J Y Y Y Y Y Y fun a J=> kz J Y Y Y Y Y Y fun a J=> kz J Y Y Y Y Y Y fun a J=> kz J Y Y Y Y Y Y fun a J=> pT J Y Y Y fun a J=> mv J Y Y fun a J=> kz J Y Y Y Y Y Y fun a J=> kz J Y Y Y Y Y Y fun a J=> kz J Y Y Y Y Y Y fun a J=> pT J Y Y Y fun a J=> mv J Y Y fun a J=> kz J Y Y Y Y Y Y fun a J=> kz J Y Y Y Y Y Y fun a J=> kz J Y Y Y Y Y Y fun a J=> pT J Y Y Y fun a J=> mv J Y Y fun a J=> kz J Y Y Y Y Y Y fun a J=> kz J Y Y Y Y Y Y fun a J=> kz J Y Y Y Y Y Y fun a J=> ?_
  refine pT J Y Y Y fun a J=> mv J Y Y fun a J=> kz J Y Y Y Y Y Y fun a J=> kz J Y Y Y Y Y Y fun a J=> kz J Y Y Y Y Y Y fun a J=> pT J Y Y Y fun a J=> s0 ?_
  exact then_n (hK6' _ _ ⟨J.sub ⟨Y, Y, Y, Y, (congrArg (fun z => some (Value.bool z)) (by first | exact (decide_eq_true (by omega)).symm | exact (decide_eq_false (by omega)).symm | exact decide_eq_decide.2 (by omega))), trivial⟩, G.sel [2, 1] Y Y⟩)
 refine sv' J (wy J Y Y Y) Y Y (R.fieldAddr (k := 40) Tryz.underlying35 Y nz3 (J.ev Y) Y) fun a J=> sv' J (wy J Y Y Y) Y Y (R.load one3 (J.ev Y) G (.t (.t .h)) (Y)) fun a J=> sv' J (wy J Y Y Y) Y Y (R.geq (J.ev Y) (J.ev Y)) fun a J=> pF J Y Y Y fun a J=> mv J Y Y fun a J=> J.splitD (t := 39) Y (fun h39 J=> ?_) (fun h39 J=> ?_)
 ·refine kz J Y Y Y Y Y Y fun a J=> kz J Y Y Y Y Y Y fun a J=> kz J Y Y Y Y Y Y fun a J=> kz J Y Y Y Y Y Y fun a J=> pT J Y Y Y fun a J=> mv J Y Y fun a J=> kz J Y Y Y Y Y Y fun a J=> kz J Y Y Y Y Y Y fun a J=> kz J Y Y Y Y Y Y fun a J=> pT J Y Y Y fun a J=> mv J Y Y fun a J=> kz J Y Y Y Y Y Y fun a J=> kz J Y Y Y Y Y Y fun a J=> kz J Y Y Y Y Y Y fun a J=> pT J Y Y Y fun a J=> mv J Y Y fun a J=> kz J Y Y Y Y Y Y fun a J=> kz J Y Y Y Y Y Y fun a J=> kz J Y Y Y Y Y Y fun a J=> pT J Y Y Y fun a J=> mv J Y Y fun a J=> kz J Y Y Y Y Y Y fun a J=> kz J Y Y Y Y Y Y fun a J=> kz J Y Y Y Y Y Y fun a J=> ?_
  refine pT J Y Y Y fun a J=> s0 ?_
  exact then_n (hK6' _ _ ⟨J.sub ⟨Y, Y, Y, Y, (congrArg (fun z => some (Value.bool z)) (by first | exact (decide_eq_true (by omega)).symm | exact (decide_eq_false (by omega)).symm | exact decide_eq_decide.2 (by omega))), trivial⟩, G.sel [2, 1] Y Y⟩)
 refine sv' J (wy J Y Y Y) Y Y (R.fieldAddr (k := 45) Tryz.underlying35 Y nz33 (J.ev Y) Y) fun a J=> sv' J (wy J Y Y Y) Y Y (R.load one33 (J.ev Y) G (.t (.t .h)) (Y)) fun a J=> sv' J (wy J Y Y Y) Y Y (R.len Tryz.underlying33 (J.ev Y)) fun a J=> sv' J (wy J Y Y Y) Y Y (R.gtr (J.ev Y) (J.ev Y)) fun a J=> pF J Y Y Y fun a J=> mv J Y Y fun a J=> J.splitD (t := 45) Y (fun h45 J=> ?_) (fun h45 J=> ?_)
 ·refine kz J Y Y Y Y Y Y fun a J=> kz J Y Y Y Y Y Y fun a J=> kz J Y Y Y Y Y Y fun a J=> pT J Y Y Y fun a J=> mv J Y Y fun a J=> kz J Y Y Y Y Y Y fun a J=> kz J Y Y Y Y Y Y fun a J=> kz J Y Y Y Y Y Y fun a J=> pT J Y Y Y fun a J=> mv J Y Y fun a J=> kz J Y Y Y Y Y Y fun a J=> kz J Y Y Y Y Y Y fun a J=> kz J Y Y Y Y Y Y fun a J=> pT J Y Y Y fun a J=> mv J Y Y fun a J=> kz J Y Y Y Y Y Y fun a J=> kz J Y Y Y Y Y Y fun a J=> kz J Y Y Y Y Y Y fun a J=> pT J Y Y Y fun a J=> s0 ?_
  exact then_n (hK6' _ _ ⟨J.sub ⟨Y, Y, Y, Y, (congrArg (fun z => some (Value.bool z)) (by first | exact (decide_eq_true (by omega)).symm | exact (decide_eq_false (by omega)).symm | exact decide_eq_decide.2 (by omega))), trivial⟩, G.sel [2, 1] Y Y⟩)
 refine sv' J (wy J Y Y Y) Y Y (R.fieldAddr (k := 46) Tryz.underlying35 Y nz3 (J.ev Y) Y) fun a J=> sv' J (wy J Y Y Y) Y Y (R.load one3 (J.ev Y) G (.t (.t .h)) (Y)) fun a J=> sv' J (wy J Y Y Y) Y Y (R.lss (J.ev Y) (J.ev Y)) fun a J=> pF J Y Y Y fun a J=> mv J Y Y fun a J=> J.splitD (t := 50) Y (fun h50 J=> ?_) (fun h50 J=> ?_)
 ·refine kz J Y Y Y Y Y Y fun a J=> kz J Y Y Y Y Y Y fun a J=> kz J Y Y Y Y Y Y fun a J=> pT J Y Y Y fun a J=> mv J Y Y fun a J=> kz J Y Y Y Y Y Y fun a J=> kz J Y Y Y Y Y Y fun a J=> kz J Y Y Y Y Y Y fun a J=> pT J Y Y Y fun a J=> mv J Y Y fun a J=> kz J Y Y Y Y Y Y fun a J=> kz J Y Y Y Y Y Y fun a J=> kz J Y Y Y Y Y Y fun a J=> pT J Y Y Y fun a J=> s0 ?_
  exact then_n (hK6' _ _ ⟨J.sub ⟨Y, Y, Y, Y, (congrArg (fun z => some (Value.bool z)) (by first | exact (decide_eq_true (by omega)).symm | exact (decide_eq_false (by omega)).symm | exact decide_eq_decide.2 (by omega))), trivial⟩, G.sel [2, 1] Y Y⟩)
 refine sv' J (wy J Y Y Y) Y Y (R.fieldAddr (k := 46) Tryz.underlying35 Y nz3 (J.ev Y) Y) fun a J=> sv' J (wy J Y Y Y) Y Y (R.load one3 (J.ev Y) G (.t (.t .h)) (Y)) fun a J=> sv' J (wy J Y Y Y) Y Y (R.gtr (J.ev Y) (J.ev Y)) fun a J=> pF J Y Y Y fun a J=> mv J Y Y fun a J=> J.splitD (t := 55) Y (fun h55 J=> ?_) (fun h55 J=> ?_)
 ·refine kz J Y Y Y Y Y Y fun a J=> kz J Y Y Y Y Y Y fun a J=> kz J Y Y Y Y Y Y fun a J=> pT J Y Y Y fun a J=> mv J Y Y fun a J=> kz J Y Y Y Y Y Y fun a J=> kz J Y Y Y Y Y Y fun a J=> kz J Y Y Y Y Y Y fun a J=> pT J Y Y Y fun a J=> s0 ?_
  exact then_n (hK6' _ _ ⟨J.sub ⟨Y, Y, Y, Y, (congrArg (fun z => some (Value.bool z)) (by first | exact (decide_eq_true (by omega)).symm | exact (decide_eq_false (by omega)).symm | exact decide_eq_decide.2 (by omega))), trivial⟩, G.sel [2, 1] Y Y⟩)
 refine sv' J (wy J Y Y Y) Y Y (R.fieldAddr (k := 47) Tryz.underlying35 Y nz3 (J.ev Y) Y) fun a J=> sv' J (wy J Y Y Y) Y Y (R.load one3 (J.ev Y) G (.t (.t .h)) (Y)) fun a J=> sv' J (wy J Y Y Y) Y Y (R.lss (J.ev Y) (J.ev Y)) fun a J=> pF J Y Y Y fun a J=> mv J Y Y fun a J=> J.splitD (t := 60) Y (fun h60 J=> ?_) (fun h60 J=> ?_)
 ·refine kz J Y Y Y Y Y Y fun a J=> kz J Y Y Y Y Y Y fun a J=> kz J Y Y Y Y Y Y fun a J=> pT J Y Y Y fun a J=> s0 ?_
  exact then_n (hK6' _ _ ⟨J.sub ⟨Y, Y, Y, Y, (congrArg (fun z => some (Value.bool z)) (by first | exact (decide_eq_true (by omega)).symm | exact (decide_eq_false (by omega)).symm | exact decide_eq_decide.2 (by omega))), trivial⟩, G.sel [2, 1] Y Y⟩)
 refine sv' J (wy J Y Y Y) Y Y (R.fieldAddr (k := 47) Tryz.underlying35 Y nz3 (J.ev Y) Y) fun a J=> sv' J (wy J Y Y Y) Y Y (R.load one3 (J.ev Y) G (.t (.t .h)) (Y)) fun a J=> sv' J (wy J Y Y Y) Y Y (R.gtr (J.ev Y) (J.ev Y)) fun a J=> pF J Y Y Y fun a J=> s0 ?_
 exact then_n (hK6' _ _ ⟨J.sub ⟨Y, Y, Y, Y, (congrArg (fun z => some (Value.bool z)) (by first | exact (decide_eq_true (by omega)).symm | exact (decide_eq_false (by omega)).symm | exact decide_eq_decide.2 (by omega))), trivial⟩, G.sel [2, 1] Y Y⟩)
end Go.Proofs.YtlapmbkfmbkdoaaGreatDoor
end
section
namespace Go.Proofs.YtlapmbkfmbkdoaaGreatDoor
open Go Go.Fw Go.RowKit
attribute [local irreducible] Go.Oper.wp Go.Code.wp Go.wpList Go.Fw.WL Go.Calls
theorem bstr_app (xs ys : List Nat) : bstr xs ++ bstr ys = bstr (xs ++ ys) := by
  apply ByteArray.ext
  simp [bstr]
theorem R.addS {P : Program} {w : World} {ρ : Operand → Value} {dst : Option Tmp} {ty : TypeId} {pos : String} {af : Array Edge} {g : Option (Nat × Bool)} {x y : Operand} {T T' : TypeId} {s t : ByteArray} (hx : ρ x = .string s) (hy : ρ y = .string t) (h : s.size + t.size ≤ 9223372036854775807) :
    (execOp ρ ⟨dst, .binOp .add T x y T', ty, pos, af, g⟩).run P w = .ok (.value (.string (s ++ t))) w := by
  have h2 : ¬ (((s.size + t.size : Nat) : Int) > IntKind.i64.max) := by
    have : IntKind.i64.max = 9223372036854775807 := rfl
    omega
  have hv : (Op.stringOp .add s t).run P w = .ok (.string (s ++ t)) w := by
    unfold Op.stringOp
    simp only [if_neg h2, Sem.run_pure]
  simp [execOp, hx, hy, eqGuard, binOp, hv, Sem.run_bind]
theorem R.catS {P : Program} {w : World} {ρ : Operand → Value} {dst : Option Tmp} {ty : TypeId} {pos : String} {af : Array Edge} {g : Option (Nat × Bool)} {x y : Operand} {T T' : TypeId} {xs ys : List Nat} (hx : ρ x = .string (bstr xs)) (hy : ρ y = .string (bstr ys)) (h : xs.length + ys.length ≤ 9223372036854775807) :
    (execOp ρ ⟨dst, .binOp .add T x y T', ty, pos, af, g⟩).run P w = .ok (.value (.string (bstr (xs ++ ys)))) w := by
  rw [← bstr_app]
  exact R.addS hx hy (by rw [size_bstr, size_bstr]; exact h)
def decS (n : Nat) : List Nat := (dec n).reverse.map (48 + ·)
def ddS (n : Nat) : List Nat := (dd n).reverse.map (48 + ·)
theorem decS_0 : decS 0 = [48] := by unfold decS; rw [dec_0]; rfl
theorem decS_pos {n : Nat} (h : n ≠ 0) : decS n = ddS n := by unfold decS ddS dec; rw [if_neg h]
theorem ddS_0 : ddS 0 = [] := by unfold ddS; rw [dd_0]; rfl
theorem ddS_step {n : Nat} (h : n ≠ 0) : ddS n = ddS (n / 10) ++ [48 + n % 10] := by unfold ddS; rw [dd_pos h]; simp
theorem len_decS {n : Nat} (h : n < 115792089237316195423570985008687907853269984665640564039457584007913129639936) : (decS n).length ≤ 78 := by
  unfold decS
  rw [List.length_map, List.length_reverse]
  exact length_dec_le (Nat.lt_of_lt_of_le h (by decide)) (by decide)
theorem len_ddS {n : Nat} (h : n < 115792089237316195423570985008687907853269984665640564039457584007913129639936) : (ddS n).length ≤ 78 := by
  by_cases h0 : n = 0
  · rw [h0, ddS_0]; exact Nat.zero_le _
  · rw [← decS_pos h0]; exact len_decS h
def namesL : List (List Nat) := [[115, 116, 111, 112], [100, 111, 110, 101], [112, 117, 115, 104], [112, 111, 112], [100, 117, 112], [115, 119, 97, 112], [97, 100, 100], [115, 117, 98], [109, 117, 108], [100, 105, 118], [109, 111, 100], [108, 101, 115, 115], [115, 97, 109, 101], [110, 111, 116], [106, 117, 109, 112], [119, 104, 101, 110], [97, 114, 103], [97, 114, 103, 115], [99, 97, 108, 108, 101, 114], [115, 101, 108, 102], [116, 111, 107, 101, 110], [97, 109, 111, 117, 110, 116], [116, 105, 109, 101], [103, 97, 115], [108, 111, 97, 100], [115, 97, 118, 101], [104, 97, 118, 101], [115, 101, 110, 100]]
def strs (l : List (List Nat)) : List Value := l.map fun x => .string (bstr x)
def nameN (c : Nat) : List Nat := namesL.getD c []
theorem strs_at {l : List (List Nat)} {i off : Nat} (h : i < l.length) (ho : off = i) : (strs l)[off]? = some (.string (bstr (l.getD i []))) := by
  subst ho; simp [strs, List.getD_eq_getElem?_getD, h]
def goN (code l : List Nat) (p : Nat) : Bool := l.any fun q => isJump code q && targetN code q == p
def operL (code : List Nat) (p : Nat) : List Nat :=
  if cAt code p = 2 then 32 :: decS (numB ((code.drop (p + 2)).take (sizeN code p - 2))) else
  if cAt code p = 4 ∨ cAt code p = 5 ∨ cAt code p = 16 then 32 :: decS (cAt code (p + 1)) else
  if cAt code p = 14 ∨ cAt code p = 15 then 32 :: 76 :: decS (targetN code p) else []
def labN (code l : List Nat) (p : Nat) : List Nat := if goN code l p then 76 :: (decS p ++ [58, 10]) else []
def lineN (code l : List Nat) (p : Nat) : List Nat := labN code l p ++ (nameN (cAt code p) ++ (operL code p ++ [10]))
def linesN (code l : List Nat) : List Nat → List Nat
  | [] => []
  | p :: r => lineN code l p ++ linesN code l r
def textN (code : List Nat) : List Nat := match placesN code with
  | some l => linesN code l l
  | none => []
theorem lines_snoc (code l : List Nat) (a : List Nat) (p : Nat) : linesN code l (a ++ [p]) = linesN code l a ++ lineN code l p := by
  induction a with
  | nil => simp [linesN]
  | cons x a ih => simp only [List.cons_append, linesN, ih, List.append_assoc]
theorem len_name (c : Nat) : (nameN c).length ≤ 6 := by
  by_cases h : c < 28
  · have : ∀ c, c < 28 → (nameN c).length ≤ 6 := by decide
    exact this c h
  · unfold nameN; rw [List.getD_eq_getElem?_getD, List.getElem?_eq_none (by show 28 ≤ c; omega)]; decide
theorem go_skip {code l : List Nat} {i p : Nat} (hi : i < l.length) (h : ¬ (isJump code (l.getD i 0) = true ∧ targetN code (l.getD i 0) = p)) : goN code (l.drop i) p = goN code (l.drop (i + 1)) p := by
  have hg : l.getD i 0 = l[i] := by rw [List.getD_eq_getElem?_getD, List.getElem?_eq_getElem hi]; rfl
  rw [hg] at h
  unfold goN
  rw [List.drop_eq_getElem_cons hi, List.any_cons]
  have : (isJump code l[i] && targetN code l[i] == p) = false := by
    rw [Bool.eq_false_iff]; intro h2
    simp only [Bool.and_eq_true, beq_iff_eq] at h2
    exact h h2
  rw [this, Bool.false_or]
theorem go_hit {code l : List Nat} {i p : Nat} (hi : i < l.length) (h : isJump code (l.getD i 0) = true ∧ targetN code (l.getD i 0) = p) : goN code (l.drop i) p = true := by
  have hg : l.getD i 0 = l[i] := by rw [List.getD_eq_getElem?_getD, List.getElem?_eq_getElem hi]; rfl
  rw [hg] at h
  unfold goN
  rw [List.drop_eq_getElem_cons hi, List.any_cons]
  simp [h.1, h.2]
theorem go_end {code l : List Nat} {i p : Nat} (hi : l.length ≤ i) : goN code (l.drop i) p = false := by rw [List.drop_of_length_le hi]; rfl
theorem isJ_iff {xs : List Nat} {q : Nat} : isJump xs q = true ↔ (cAt xs q = 14 ∨ cAt xs q = 15) := by simp [isJump]
theorem ten_div {a : Nat} (ha : a < 115792089237316195423570985008687907853269984665640564039457584007913129639936) : a / 10 % 256 ^ 32 = a / 10 := Nat.mod_eq_of_lt (by rw [M256]; omega)
theorem digit_at {a off : Nat} (ho : off = 31) : (ints (toB 32 (a % 10)))[off]? = some (.int .i64 ((a % 10 : Nat) : Int)) := by
  have := ints_getB (k := 32) (n := a % 10) (i := 31) (off := off) (by decide) ho
  rw [this]
  simp; omega
set_option maxHeartbeats 1000000 in
theorem decimals_calls (x : Nat) (w0 : World) (hx : x < 115792089237316195423570985008687907853269984665640564039457584007913129639936) : Ret Tryz.prog 28 [wv x] w0 [] (fun v s => v = .string (bstr (decS x)) ∧ s = []) := by
 refine fn_start Tryz.func28 Y Tryz.ntmps28 Y [(0, wv x)] ⟨Y, trivial⟩ ?_
 intro Q a hP J hR hN
 have G := St.start w0
 refine wp_seq_k fun K1 hK1=> wp_region_lit <| so (wn Y) (O.box Y Y J (J.ev Y) Y G fun b1 a w J G=> ?_)
 refine av J Y Y fun a J=> s0 <| then_n (hK1 _ _ <| wp_seq_k fun K2 hK2=> wp_seq_k fun K3 hK3=> wp_region_lit <| sw J Y Y Y (R.loadW agg32 (J.ev Y) G .h sz32 (Y)) fun a J=> so (wn Y) (O.call Y Y J ent46 (J.evs Y) G (nought_calls x w hx) fun v s8 a w hR J G=> ?_))
 obtain ⟨rfl, rfl⟩ := hR
 refine s0 <| then_n (hK3 _ _ <| cD J Y (fun c1=> ?_) (fun c1=> ?_))
 ·refine wp_seq_k fun K4 hK4=> wp_region_lit <| av J Y Y fun a J=> s0 <| then_n (hK4 _ _ <| wp_ret (then_r (hR _ _ _ _ _ J (run_results Tryz.results28 (.t J Y (.nil))) ?_)))
  exact ⟨_, [], Y, ⟨by rw [c1, decS_0]; rfl, Y⟩, G.none⟩
 refine wp_skip <| then_n (hK2 _ _ <| wp_seq_k fun K5 hK5=> wp_region_lit <| av J Y Y fun a J=> s0 <| then_n (hK5 _ _ <| wp_seq_k fun K6 hK6=> wp_region_lit <| sw J Y Y Y (R.buildArr (l := [_, _, _, _]) Tryz.underlying32 ze32 sz30 (J.evp Y) Y) fun a J=> so (wn Y) (O.call Y Y J ent61 (J.evs Y) G (dig_calls 10 w) fun v s10 a w hR J G=> ?_)))
 obtain ⟨b10, rfl, rfl⟩ := hR
 refine av J Y Y fun a J=> s0 <| then_n (hK6 _ _ <| wp_seq_k fun K7 hK7=> wp_block <| wp_loop_N (fun g a w=> ∃ (a0 : Nat) (o : List Nat), a0 = g ∧ Fr 33 [(1, .pointer (some ⟨b1, 0, none⟩)), (3, .string (bstr (o))), (4, .slice (some ⟨b10, 0, none⟩) 32 32)] a ∧ St w0 [] [[(b10, Cel (ints (toB 32 10)) 3)], [(b1, Cel (wc a0) 32)]] w ∧ (a0 < 115792089237316195423570985008687907853269984665640564039457584007913129639936) ∧ (ddS x = ddS a0 ++ o)) (x) ?_ ?_)
 ·exact ⟨x, [], Y, J.sub ⟨Y, Y, Y, trivial⟩, G.sel [0, 2] Y Y, hx, by simp⟩
 rintro KL1 g a w ⟨a0, o, hg1, J, G, ha, hdx⟩ hKL1
 have hol : o.length ≤ 78 := by (have h8 := congrArg List.length hdx; rw [List.length_append] at h8; have h9 := len_ddS hx; omega)
 refine wp_seq_k fun K8 hK8=> wp_seq_k fun K9 hK9=> wp_region_lit <| sw J Y Y Y (R.loadW agg32 (J.ev Y) G (.t .h) sz32 (Y)) fun a J=> so (wn Y) (O.call Y Y J ent46 (J.evs Y) G (nought_calls a0 w ha) fun v s12 a w hR J G=> ?_)
 obtain ⟨rfl, rfl⟩ := hR
 refine sw J Y Y Y ((by first | exact R.notD (J.ev Y) | exact R.not (J.ev Y))) fun a J=> ?_
 refine s0 <| then_n (hK9 _ _ <| cD J Y (fun hz=> ?_) (fun hz=> ?_))
 ·refine wp_skip <| then_n (hK8 _ _ <| wp_block <| wp_seq_k fun K10 hK10=> wp_region_lit <| sw J Y Y Y (R.loadW agg32 (J.ev Y) G (.t (.t .h)) sz32 (Y)) fun a J=> so (wn Y) (O.call Y Y J ent61 (J.evs Y) G (dig_calls a0 w) fun v s16 a w hR J G=> ?_))
  obtain ⟨b16, rfl, rfl⟩ := hR
  refine mv J Y Y fun a J=> so (wn Y) (O.call Y Y J ent62 (J.evs Y) G (parts_calls (some ⟨b16, 0, none⟩) (some ⟨b10, 0, none⟩) 32 32 a0 10 w (Rd.own0 G .h) (Rd.own0 G (.t (.t .h))) (by rw [M256]; exact ha) (by decide) (by decide)) fun v s18 a w hR J G=> ?_)
  obtain ⟨bq, br, rfl, rfl⟩ := hR
  refine mv J Y Y fun a J=> xv J Y Y Y fun a J=> xv J Y Y Y fun a J=> av J Y Y fun a J=> av J Y Y fun a J=> s0 <| then_n (hK10 _ _ <| wp_seq_k fun K11 hK11=> ?_)
  have G := St.split2 G
  refine wp_region_lit <| mv J Y Y fun a J=> sw J Y Y Y (R.indexO Tryz.underlying61 sz3 (J.ev Y) ((rd_tail (n := 32) (j := 1) (Rd.own0 G (.t .h))).ne (by rw [length_ints, length_toB]; decide)) (J.ev Y) (by omega) (by omega)) fun a J=> sw J Y Y Y (R.loadO one3 (J.ev Y) (rd_tail (n := 32) (j := 1) (Rd.own0 G (.t .h))) (digit_at (by omega))) fun a J=> aI J Y Y Y (by omega) fun a J=> sw J Y Y Y (R.as (u := .int .u8 ((48 + a0 % 10 : Nat) : Int)) (R.convB (p := 48 + a0 % 10) Tryz.underlying3 Tryz.underlying5 ((J.ev Y).trans (congrArg (Value.int .i64) (by omega)))) (congrArg (fun z : Nat=> Value.int .u8 (z : Int)) (Nat.mod_eq_of_lt (by omega)))) fun a J=> so (wn Y) (O.buildSlice (l := [_]) Y Y J Tryz.underlying22 inf5 Y Y (J.evp Y) (by decide) Y G fun b26 a w J G=> ?_)
  refine sw J Y Y Y (R.convStr (xs := [48 + a0 % 10]) Tryz.underlying22 Tryz.underlying5 Tryz.underlying9 (J.ev Y) (Rd.own0 (l := byts [48 + a0 % 10]) G .h) Y) fun a J=> mv J Y Y fun a J=> sw J Y Y Y (R.catS (J.ev Y) (J.ev Y) (by simp only [List.length_cons, List.length_nil]; omega)) fun a J=> av J Y Y fun a J=> s0 <| then_n (hK11 _ _ <| wp_region_lit <| mv J Y Y fun a J=> so (wn Y) (O.call Y Y J ent29 (J.evs Y) G (number32 (some ⟨bq, 0, none⟩) 32 (a0 / 10) w (Rd.own0 G (.t .h))) fun v s31 a w hR J G=> ?_))
  obtain ⟨rfl, rfl⟩ := hR
  refine so (wn Y) (O.storeW sz32 (J.ev Y) (J.ev Y) (Y) Y (by simp [Value.oneCell']) G (.t (.t (.t (.t (.t (.t (.t .h))))))) (Y) fun w G=> ?_)
  refine s0 <| blk_n <| then_n (hKL1 (a0 / 10) _ _ ?_ ?_)
  ·omega
  exact ⟨a0 / 10, _, Y, J.sub ⟨Y, Y, Y, trivial⟩, G.sel [6, 7] Y (by rw [ten_div ha]; rfl), by omega, (by rw [hdx, ddS_step hz]; simp)⟩
 obtain rfl : a0 = 0 := Classical.not_not.1 hz
 refine wp_exit (then_x (then_x (blk_hit <| then_n (hK7 _ _ <| wp_seq_k fun K12 hK12=> wp_region_lit <| mv J Y Y fun a J=> av J Y Y fun a J=> s0 <| then_n (hK12 _ _ <| wp_ret (hR _ _ _ _ _ J (run_results Tryz.results28 (.t J Y (.nil))) ?_))))))
 exact ⟨_, [], Y, ⟨by rw [decS_pos c1, hdx, ddS_0]; rfl, Y⟩, G.none⟩
theorem plain_calls (m : Nat) (w0 : World) (hm : m < 18446744073709551616) : Ret Tryz.prog 26 [.int .i64 ((m : Nat) : Int)] w0 [] (fun v s => v = .string (bstr (decS m)) ∧ s = []) := by
 refine fn_start Tryz.func26 Y Tryz.ntmps26 Y [(0, .int .i64 ((m : Nat) : Int))] ⟨Y, trivial⟩ ?_
 intro Q a hP J hR hN
 have G := St.start w0
 refine wp_seq_k fun K1 hK1=> wp_region_lit <| av J Y Y fun a J=> s0 <| then_n (hK1 _ _ <| wp_seq_k fun K2 hK2=> wp_region_lit <| mv J Y Y fun a J=> so (wn Y) (O.call Y Y J ent60 (J.evs Y) G (rcount_calls m _ (by omega)) fun v s4 a w hR J G=> ?_))
 obtain ⟨rfl, rfl⟩ := hR
 refine so (wn Y) (O.call Y Y J ent28 (J.evs Y) G (decimals_calls m w (by omega)) fun v s5 a w hR J G=> ?_)
 obtain ⟨rfl, rfl⟩ := hR
 refine av J Y Y fun a J=> s0 <| then_n (hK2 _ _ <| wp_ret (hR _ _ _ _ _ J (run_results Tryz.results26 (.t J Y (.nil))) ?_))
 exact ⟨_, [], Y, ⟨Y, Y⟩, G.none⟩
theorem name_calls (m : Nat) (w0 : World) (hm : m < 28) : Ret Tryz.prog 27 [.int .i64 ((m : Nat) : Int)] w0 [] (fun v s => v = .string (bstr (nameN m)) ∧ s = []) := by
 refine fn_start Tryz.func27 Y Tryz.ntmps27 Y [(0, .int .i64 ((m : Nat) : Int))] ⟨Y, trivial⟩ ?_
 intro Q a hP J hR hN
 have G := St.start w0
 refine wp_seq_k fun K1 hK1=> wp_region_lit <| av J Y Y fun a J=> s0 <| then_n (hK1 _ _ <| wp_seq_k fun K2 hK2=> wp_region_lit <| so (wn Y) (O.buildSlice (l := strs namesL) Y Y J Tryz.underlying108 inf9 Y Y (J.evp Y) (by decide) Y G fun b4 a w J G=> ?_))
 refine av J Y Y fun a J=> s0 <| then_n (hK2 _ _ <| wp_seq_k fun K3 hK3=> wp_seq_k fun K4 hK4=> wp_region_lit <| mv J Y Y fun a J=> sw J Y Y Y (R.as (u := .bool false) (R.lss (p := ((m : Nat) : Int)) (q := 0) (J.ev Y) (J.ev Y)) (congrArg Value.bool (decide_eq_false (by omega)))) fun a J=> mv J Y Y fun a J=> my J Y Y Y Y fun a J=> sv' J (wy J Y Y Y) Y Y (R.as (u := .bool false) (R.geq (p := ((m : Nat) : Int)) (q := 28) (J.ev Y) (J.ev Y)) (congrArg Value.bool (decide_eq_false (by omega)))) fun a J=> pF J Y Y Y fun a J=> s0 <| then_n (hK4 _ _ <| cF J Y <| wp_skip <| then_n (hK3 _ _ <| wp_seq_k fun K5 hK5=> wp_region_lit <| mv J Y Y fun a J=> mv J Y Y fun a J=> sw J Y Y Y (R.indexS Tryz.underlying108 sz9 (J.ev Y) (J.ev Y) (by omega) (by omega)) fun a J=> sw J Y Y Y (R.load one9 (J.ev Y) G .h (strs_at (i := m) hm (by omega))) fun a J=> av J Y Y fun a J=> ?_)))
 refine s0 <| then_n (hK5 _ _ <| wp_ret (hR _ _ _ _ _ J (run_results Tryz.results27 (.t J Y (.nil))) ?_))
 exact ⟨_, [], Y, ⟨Y, Y⟩, G.none⟩
set_option maxHeartbeats 1000000 in
theorem goes_calls (A : Option Addr) (n c : Nat) (xs : List Nat) (B : Option Addr) (d : Nat) (l : List Nat) (p : Nat) (w0 : World) (hA : Rd w0 A (byts xs)) (hn : xs.length = n) (hnc : n ≤ c) (hc : c ≤ 9223372036854775807) (hB : Byt xs) (hn2 : n ≤ 1024) (hL : Rd w0 B (ints l)) (hld : l.length ≤ 1000000) (hpl : ∀ q ∈ l, q < xs.length ∧ sizeN xs q ≠ 0) : Ret Tryz.prog 25 [.slice A n c, .slice B l.length d, .int .i64 ((p : Nat) : Int)] w0 [] (fun v s => v = .bool (goN xs l p) ∧ s = []) := by
 refine fn_start Tryz.func25 Y Tryz.ntmps25 Y [(0, .slice A n c), (1, .slice B l.length d), (2, .int .i64 ((p : Nat) : Int))] ⟨Y, Y, Y, trivial⟩ ?_
 intro Q a hP J hR hN
 have G := St.start w0
 refine wp_seq_k fun K1 hK1=> wp_region_lit <| av J Y Y fun a J=> s0 <| then_n (hK1 _ _ <| wp_seq_k fun K2 hK2=> wp_seq_k fun K3 hK3=> wp_region_lit <| av J Y Y fun a J=> s0 <| then_n (hK3 _ _ <| wp_block <| wp_loop_N (fun g a w=> ∃ (i : Nat), l.length - i = g ∧ Fr 39 [(0, .slice A n c), (1, .slice B l.length d), (2, .int .i64 ((p : Nat) : Int)), (7, .int .i64 ((i : Nat) : Int))] a ∧ St w0 [] [] w ∧ (i ≤ l.length) ∧ (goN xs (l.drop i) p = goN xs l p)) (l.length - 0) ?_ ?_))
 ·exact ⟨0, Y, J.sub ⟨Y, Y, Y, Y, trivial⟩, G.sel [] Y Y, by omega, by rw [List.drop_zero]⟩
 rintro KL1 g a w ⟨i, hg1, J, G, hi, hg2⟩ hKL1
 refine wp_seq_k fun K4 hK4=> wp_seq_k fun K5 hK5=> wp_region_lit <| mv J Y Y fun a J=> mv J Y Y fun a J=> sw J Y Y Y (R.len Tryz.underlying61 (J.ev Y)) fun a J=> lS J Y Y Y fun a J=> s0 <| then_n (hK5 _ _ <| cD J Y (fun c1=> ?_) (fun c1=> ?_))
 ·have hqm := hpl (l.getD i 0) (getD_mem (by omega)); obtain ⟨hql, hqs⟩ := hqm; have hcb := cAt_lt hB (l.getD i 0)
  refine wp_skip <| then_n (hK4 _ _ <| wp_seq_k fun K6 hK6=> wp_block <| wp_seq_k fun K7 hK7=> wp_region_lit <| mv J Y Y fun a J=> mv J Y Y fun a J=> mv J Y Y fun a J=> sw J Y Y Y (R.indexO Tryz.underlying61 sz3 (J.ev Y) (Rd.ne hL (by rw [length_ints]; omega)) (J.ev Y) (by omega) (by omega)) fun a J=> sw J Y Y Y (R.loadO one3 (J.ev Y) (hL.old G) (intsO (i := i) (by omega) (by omega))) fun a J=> sw J Y Y Y (R.indexO Tryz.underlying22 sz5 (J.ev Y) (Rd.ne hA (by rw [length_byts]; omega)) (J.ev Y) (by omega) (by omega)) fun a J=> sw J Y Y Y (R.loadO one5 (J.ev Y) (hA.old G) (cb_at (i := (l.getD i 0)) (by omega) (by omega))) fun a J=> sw J Y Y Y (R.convI Tryz.underlying5 Tryz.underlying3 (J.ev Y) (by omega)) fun a J=> av J Y Y fun a J=> s0 <| then_n (hK7 _ _ <| wp_seq_k fun K8 hK8=> ?_))
  have hK8' : ∀ a w, (Fr 39 [(0, .slice A n c), (1, .slice B l.length d), (2, .int .i64 ((p : Nat) : Int)), (7, .int .i64 ((i : Nat) : Int)), (38, .bool (decide ((cAt xs (l.getD i 0) = 14 ∨ cAt xs (l.getD i 0) = 15) ∧ targetN xs (l.getD i 0) = p)))] a ∧ St w0 [] [] w) → K8 a w := by
   rintro a w ⟨J, G⟩
   refine hK8 _ _ ?_
   refine cD J Y (fun c2=> ?_) (fun c2=> ?_)
   ·refine wp_seq_k fun K9 hK9=> wp_region_lit <| av J Y Y fun a J=> s0 <| then_n (hK9 _ _ <| wp_ret (blk_r (then_r (then_r (blk_r (then_r (hR _ _ _ _ _ J (run_results Tryz.results25 (.t J Y (.nil))) ?_)))))))
    exact ⟨_, [], Y, ⟨congrArg Value.bool (by rw [← hg2]; exact (go_hit (by omega) ⟨isJ_iff.2 c2.1, c2.2⟩).symm), Y⟩, G.none⟩
   refine wp_skip <| blk_n <| then_n (hK6 _ _ <| wp_region_lit <| mv J Y Y fun a J=> aI J Y Y Y (by omega) fun a J=> av J Y Y fun a J=> s0 <| then_n (hKL1 (l.length - (i + 1)) _ _ ?_ ?_))
   ·omega
   exact ⟨i + 1, Y, J.sub ⟨Y, Y, Y, (congrArg (fun z => some (Value.int .i64 z)) (by omega)), trivial⟩, G.sel [] Y Y, by omega, (go_skip (by omega) (fun h => c2 ⟨isJ_iff.1 h.1, h.2⟩)).symm.trans hg2⟩
  refine wp_region_lit <| mv J Y Y fun a J=> eL J Y Y Y fun a J=> mv J Y Y fun a J=> J.splitD (t := 25) Y (fun h25 J=> ?_) (fun h25 J=> ?_)
  ·refine kz J Y Y Y Y Y Y fun a J=> kz J Y Y Y Y Y Y fun a J=> pT J Y Y Y fun a J=> mv J Y Y fun a J=> my J Y Y Y Y fun a J=> my J Y Y Y Y fun a J=> my J Y Y Y Y fun a J=> sv' J (wy J Y Y Y) Y Y (R.indexO Tryz.underlying61 sz3 (J.ev Y) (Rd.ne hL (by rw [length_ints]; omega)) (J.ev Y) (by omega) (by omega)) fun a J=> sv' J (wy J Y Y Y) Y Y (R.loadO one3 (J.ev Y) (hL.old G) (intsO (i := i) (by omega) (by omega))) fun a J=> so (wy J Y Y Y) (O.call Y Y J ent30 (J.evs Y) G (rtarget_calls A n c xs (l.getD i 0) w (hA.old G) hn hnc hc hB (by have := jump_size (xs := xs) (p := (l.getD i 0)) (by omega) hqs (isJ_iff.2 (by omega)); omega)) fun v s35 a w hR J G=> ?_)
   obtain ⟨rfl, rfl⟩ := hR
   refine my J Y Y Y Y fun a J=> sv' J (wy J Y Y Y) Y Y (R.eql (J.ev Y) (J.ev Y)) fun a J=> pT J Y Y Y fun a J=> s0 ?_
   exact then_n (hK8' _ _ ⟨J.sub ⟨Y, Y, Y, Y, (congrArg (fun z => some (Value.bool z)) (by first | exact (decide_eq_true (by omega)).symm | exact (decide_eq_false (by omega)).symm | exact decide_eq_decide.2 (by omega))), trivial⟩, G.sel [] Y Y⟩)
  refine my J Y Y Y Y fun a J=> sv' J (wy J Y Y Y) Y Y (R.eql (J.ev Y) (J.ev Y)) fun a J=> pF J Y Y Y fun a J=> mv J Y Y fun a J=> J.splitD (t := 29) Y (fun h29 J=> ?_) (fun h29 J=> ?_)
  ·refine my J Y Y Y Y fun a J=> my J Y Y Y Y fun a J=> my J Y Y Y Y fun a J=> sv' J (wy J Y Y Y) Y Y (R.indexO Tryz.underlying61 sz3 (J.ev Y) (Rd.ne hL (by rw [length_ints]; omega)) (J.ev Y) (by omega) (by omega)) fun a J=> sv' J (wy J Y Y Y) Y Y (R.loadO one3 (J.ev Y) (hL.old G) (intsO (i := i) (by omega) (by omega))) fun a J=> so (wy J Y Y Y) (O.call Y Y J ent30 (J.evs Y) G (rtarget_calls A n c xs (l.getD i 0) w (hA.old G) hn hnc hc hB (by have := jump_size (xs := xs) (p := (l.getD i 0)) (by omega) hqs (isJ_iff.2 (by omega)); omega)) fun v s35 a w hR J G=> ?_)
   obtain ⟨rfl, rfl⟩ := hR
   refine my J Y Y Y Y fun a J=> sv' J (wy J Y Y Y) Y Y (R.eql (J.ev Y) (J.ev Y)) fun a J=> pT J Y Y Y fun a J=> s0 ?_
   exact then_n (hK8' _ _ ⟨J.sub ⟨Y, Y, Y, Y, (congrArg (fun z => some (Value.bool z)) (by first | exact (decide_eq_true (by omega)).symm | exact (decide_eq_false (by omega)).symm | exact decide_eq_decide.2 (by omega))), trivial⟩, G.sel [] Y Y⟩)
  refine kz J Y Y Y Y Y Y fun a J=> kz J Y Y Y Y Y Y fun a J=> kz J Y Y Y Y Y Y fun a J=> kz J Y Y Y Y Y Y fun a J=> kz J Y Y Y Y Y Y fun a J=> kz J Y Y Y Y Y Y fun a J=> kz J Y Y Y Y Y Y fun a J=> kz J Y Y Y Y Y Y fun a J=> pF J Y Y Y fun a J=> s0 ?_
  exact then_n (hK8' _ _ ⟨J.sub ⟨Y, Y, Y, Y, (congrArg (fun z => some (Value.bool z)) (by first | exact (decide_eq_true (by omega)).symm | exact (decide_eq_false (by omega)).symm | exact decide_eq_decide.2 (by omega))), trivial⟩, G.sel [] Y Y⟩)
 refine wp_exit (then_x (then_x (blk_hit <| then_n (hK2 _ _ <| wp_seq_k fun K10 hK10=> wp_region_lit <| av J Y Y fun a J=> s0 <| then_n (hK10 _ _ <| wp_ret (hR _ _ _ _ _ J (run_results Tryz.results25 (.t J Y (.nil))) ?_))))))
 exact ⟨_, [], Y, ⟨congrArg Value.bool (by rw [← hg2]; exact (go_end (by omega)).symm), Y⟩, G.none⟩
end Go.Proofs.YtlapmbkfmbkdoaaGreatDoor
end
