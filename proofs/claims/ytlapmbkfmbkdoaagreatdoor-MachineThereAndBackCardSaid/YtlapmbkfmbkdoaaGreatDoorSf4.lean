/- Part 4 of what the row MachineThereAndBack needs, with no condition beyond each lemma's own. -/
import Derived.Test.YtlapmbkfmbkdoaaGreatDoorSf3
section
namespace Go.Proofs.YtlapmbkfmbkdoaaGreatDoor
open Go Go.Fw Go.RowKit
attribute [local irreducible] Go.Oper.wp Go.Code.wp Go.wpList Go.Fw.WL Go.Calls
theorem callOk_tok {cl : Cl} (h : callOk cl = true) : 0 ≤ cl.token ∧ cl.token < 64 ∧ cl.args.length ≤ 8 ∧ 0 ≤ cl.time ∧ cl.time ≤ 4611686018427387904 ∧ 1 ≤ cl.gas ∧ cl.gas ≤ 10000 := by
  simpa [callOk, and_assoc] using h
theorem arg_at {l : List Nat} {k off : Nat} (hk : k < l.length) (ho : off = k * 4) : ∀ j v, (wc (l.getD k 0))[j]? = some v → (l.flatMap wc)[off + j]? = some v := wcs_at hk ho
theorem args_op (F : Fx) (V : Vr) (stk : List Nat) (s : Seg) (vx : Value) (w0 : World) (hRun : RunS F V stk s) (ho : Own w0 s) (hK : F.Ok) (hA : RdK w0 (s.map (·.1)) F.aA (F.cl.args.flatMap wc)) (hl : stk.length ≤ 64) : Ret Tryz.prog 80 [.pointer (some ⟨F.rb, 0, none⟩), vx] w0 (s.map (·.1)) (fun v s' => v = .int .i64 0 ∧ RunS F V (stk ++ [F.cl.args.length]) s') := by
 refine fn_start Tryz.func80 Y Tryz.ntmps80 Y [(0, .pointer (some ⟨F.rb, 0, none⟩)), (1, vx)] ⟨Y, Y, trivial⟩ ?_
 intro Q a hP J hR hN
 have G := St.enter ho
 obtain ⟨A, c, sg, hs, hO⟩ := hRun; have G := G.flat (bs' := [[(F.rb, Cel (rcells F (.slice A stk.length c) V) 103)], sg]) (by simp [hs])
 refine wp_seq_k fun K1 hK1=> wp_region_lit <| av J Y Y fun a J=> s0 <| then_n (hK1 _ _ <| wp_seq_k fun K2 hK2=> wp_region_lit <| mv J Y Y fun a J=> mv J Y Y fun a J=> sw J Y Y Y (R.nilCheck (J.ev Y)) fun a J=> sw J Y Y Y (R.fieldAddr (k := 1) Tryz.underlying103 Y nz35 (J.ev Y) Y) fun a J=> sw J Y Y Y (R.fieldAddr (k := 45) Tryz.underlying35 Y nz33 (J.ev Y) Y) fun a J=> sw J Y Y Y (R.load one33 (J.ev Y) G .h (Y)) fun a J=> sw J Y Y Y (R.len Tryz.underlying33 (J.ev Y)) fun a J=> ?_)
 have G := (G.sel [0, 1] rfl rfl).flat (bs' := [(F.rb, Cel (rcells F (.slice A stk.length c) V) 103) :: sg]) (by simp [selS])
 refine so (wn Y) (O.callK Y Y J ent124 (J.evs Y) G (count_calls F V stk _ (F.cl.args.length) _ ⟨A, c, sg, Y, hO⟩ (G.own1 .h) (by have := callOk_tok hK.call; omega) hl) (fun _=> .h) fun v s12 a w hR J G=> ?_)
 obtain ⟨rfl, hRun2⟩ := hR
 refine av J Y Y fun a J=> s0 <| then_n (hK2 _ _ <| wp_ret (hR _ _ _ _ _ J (run_results Tryz.results80 (.t J Y (.nil))) ?_))
 exact ⟨_, s12, Y, ⟨Y, hRun2⟩, G.one .h⟩
theorem token_op (F : Fx) (V : Vr) (stk : List Nat) (s : Seg) (vx : Value) (w0 : World) (hRun : RunS F V stk s) (ho : Own w0 s) (hK : F.Ok) (hA : RdK w0 (s.map (·.1)) F.aA (F.cl.args.flatMap wc)) (hl : stk.length ≤ 64) : Ret Tryz.prog 83 [.pointer (some ⟨F.rb, 0, none⟩), vx] w0 (s.map (·.1)) (fun v s' => v = .int .i64 0 ∧ RunS F V (stk ++ [F.cl.token.toNat]) s') := by
 refine fn_start Tryz.func83 Y Tryz.ntmps83 Y [(0, .pointer (some ⟨F.rb, 0, none⟩)), (1, vx)] ⟨Y, Y, trivial⟩ ?_
 intro Q a hP J hR hN
 have G := St.enter ho
 obtain ⟨A, c, sg, hs, hO⟩ := hRun; have G := G.flat (bs' := [[(F.rb, Cel (rcells F (.slice A stk.length c) V) 103)], sg]) (by simp [hs])
 refine wp_seq_k fun K1 hK1=> wp_region_lit <| av J Y Y fun a J=> s0 <| then_n (hK1 _ _ <| wp_seq_k fun K2 hK2=> wp_region_lit <| mv J Y Y fun a J=> mv J Y Y fun a J=> sw J Y Y Y (R.nilCheck (J.ev Y)) fun a J=> sw J Y Y Y (R.fieldAddr (k := 1) Tryz.underlying103 Y nz35 (J.ev Y) Y) fun a J=> sw J Y Y Y (R.fieldAddr (k := 40) Tryz.underlying35 Y nz3 (J.ev Y) Y) fun a J=> sw J Y Y Y (R.as (u := .int .i64 ((F.cl.token.toNat : Nat) : Int)) (R.load one3 (J.ev Y) G .h Y) (congrArg (Value.int .i64) (by have := callOk_tok hK.call; omega))) fun a J=> ?_)
 have G := (G.sel [0, 1] rfl rfl).flat (bs' := [(F.rb, Cel (rcells F (.slice A stk.length c) V) 103) :: sg]) (by simp [selS])
 refine so (wn Y) (O.callK Y Y J ent124 (J.evs Y) G (count_calls F V stk _ (F.cl.token.toNat) _ ⟨A, c, sg, Y, hO⟩ (G.own1 .h) (by have := callOk_tok hK.call; omega) hl) (fun _=> .h) fun v s11 a w hR J G=> ?_)
 obtain ⟨rfl, hRun2⟩ := hR
 refine av J Y Y fun a J=> s0 <| then_n (hK2 _ _ <| wp_ret (hR _ _ _ _ _ J (run_results Tryz.results83 (.t J Y (.nil))) ?_))
 exact ⟨_, s11, Y, ⟨Y, hRun2⟩, G.one .h⟩
theorem time_op (F : Fx) (V : Vr) (stk : List Nat) (s : Seg) (vx : Value) (w0 : World) (hRun : RunS F V stk s) (ho : Own w0 s) (hK : F.Ok) (hA : RdK w0 (s.map (·.1)) F.aA (F.cl.args.flatMap wc)) (hl : stk.length ≤ 64) : Ret Tryz.prog 85 [.pointer (some ⟨F.rb, 0, none⟩), vx] w0 (s.map (·.1)) (fun v s' => v = .int .i64 0 ∧ RunS F V (stk ++ [F.cl.time.toNat]) s') := by
 refine fn_start Tryz.func85 Y Tryz.ntmps85 Y [(0, .pointer (some ⟨F.rb, 0, none⟩)), (1, vx)] ⟨Y, Y, trivial⟩ ?_
 intro Q a hP J hR hN
 have G := St.enter ho
 obtain ⟨A, c, sg, hs, hO⟩ := hRun; have G := G.flat (bs' := [[(F.rb, Cel (rcells F (.slice A stk.length c) V) 103)], sg]) (by simp [hs])
 refine wp_seq_k fun K1 hK1=> wp_region_lit <| av J Y Y fun a J=> s0 <| then_n (hK1 _ _ <| wp_seq_k fun K2 hK2=> wp_region_lit <| mv J Y Y fun a J=> mv J Y Y fun a J=> sw J Y Y Y (R.nilCheck (J.ev Y)) fun a J=> sw J Y Y Y (R.fieldAddr (k := 1) Tryz.underlying103 Y nz35 (J.ev Y) Y) fun a J=> sw J Y Y Y (R.fieldAddr (k := 46) Tryz.underlying35 Y nz3 (J.ev Y) Y) fun a J=> sw J Y Y Y (R.as (u := .int .i64 ((F.cl.time.toNat : Nat) : Int)) (R.load one3 (J.ev Y) G .h Y) (congrArg (Value.int .i64) (by have := callOk_tok hK.call; omega))) fun a J=> ?_)
 have G := (G.sel [0, 1] rfl rfl).flat (bs' := [(F.rb, Cel (rcells F (.slice A stk.length c) V) 103) :: sg]) (by simp [selS])
 refine so (wn Y) (O.callK Y Y J ent124 (J.evs Y) G (count_calls F V stk _ (F.cl.time.toNat) _ ⟨A, c, sg, Y, hO⟩ (G.own1 .h) (by have := callOk_tok hK.call; omega) hl) (fun _=> .h) fun v s11 a w hR J G=> ?_)
 obtain ⟨rfl, hRun2⟩ := hR
 refine av J Y Y fun a J=> s0 <| then_n (hK2 _ _ <| wp_ret (hR _ _ _ _ _ J (run_results Tryz.results85 (.t J Y (.nil))) ?_))
 exact ⟨_, s11, Y, ⟨Y, hRun2⟩, G.one .h⟩
theorem gas_op (F : Fx) (V : Vr) (stk : List Nat) (s : Seg) (vx : Value) (w0 : World) (hRun : RunS F V stk s) (ho : Own w0 s) (hK : F.Ok) (hA : RdK w0 (s.map (·.1)) F.aA (F.cl.args.flatMap wc)) (hl : stk.length ≤ 64) (hq : V.left ≤ 9223372036854775807) : Ret Tryz.prog 86 [.pointer (some ⟨F.rb, 0, none⟩), vx] w0 (s.map (·.1)) (fun v s' => v = .int .i64 0 ∧ RunS F V (stk ++ [V.left]) s') := by
 refine fn_start Tryz.func86 Y Tryz.ntmps86 Y [(0, .pointer (some ⟨F.rb, 0, none⟩)), (1, vx)] ⟨Y, Y, trivial⟩ ?_
 intro Q a hP J hR hN
 have G := St.enter ho
 obtain ⟨A, c, sg, hs, hO⟩ := hRun; have G := G.flat (bs' := [[(F.rb, Cel (rcells F (.slice A stk.length c) V) 103)], sg]) (by simp [hs])
 refine wp_seq_k fun K1 hK1=> wp_region_lit <| av J Y Y fun a J=> s0 <| then_n (hK1 _ _ <| wp_seq_k fun K2 hK2=> wp_region_lit <| mv J Y Y fun a J=> mv J Y Y fun a J=> sw J Y Y Y (R.nilCheck (J.ev Y)) fun a J=> sw J Y Y Y (R.fieldAddr (k := 51) Tryz.underlying103 Y nz3 (J.ev Y) Y) fun a J=> sw J Y Y Y (R.load one3 (J.ev Y) G .h (Y)) fun a J=> ?_)
 have G := (G.sel [0, 1] rfl rfl).flat (bs' := [(F.rb, Cel (rcells F (.slice A stk.length c) V) 103) :: sg]) (by simp [selS])
 refine so (wn Y) (O.callK Y Y J ent124 (J.evs Y) G (count_calls F V stk _ V.left _ ⟨A, c, sg, Y, hO⟩ (G.own1 .h) hq hl) (fun _=> .h) fun v s10 a w hR J G=> ?_)
 obtain ⟨rfl, hRun2⟩ := hR
 refine av J Y Y fun a J=> s0 <| then_n (hK2 _ _ <| wp_ret (hR _ _ _ _ _ J (run_results Tryz.results86 (.t J Y (.nil))) ?_))
 exact ⟨_, s10, Y, ⟨Y, hRun2⟩, G.one .h⟩
theorem caller_op (F : Fx) (V : Vr) (stk : List Nat) (s : Seg) (vx : Value) (w0 : World) (hRun : RunS F V stk s) (ho : Own w0 s) (hK : F.Ok) (hA : RdK w0 (s.map (·.1)) F.aA (F.cl.args.flatMap wc)) (hl : stk.length ≤ 64) : Ret Tryz.prog 81 [.pointer (some ⟨F.rb, 0, none⟩), vx] w0 (s.map (·.1)) (fun v s' => v = .int .i64 0 ∧ RunS F V (stk ++ [adN F.cl.caller]) s') := by
 refine fn_start Tryz.func81 Y Tryz.ntmps81 Y [(0, .pointer (some ⟨F.rb, 0, none⟩)), (1, vx)] ⟨Y, Y, trivial⟩ ?_
 intro Q a hP J hR hN
 have G := St.enter ho
 obtain ⟨A, c, sg, hs, hO⟩ := hRun; have G := G.flat (bs' := [[(F.rb, Cel (rcells F (.slice A stk.length c) V) 103)], sg]) (by simp [hs])
 refine wp_seq_k fun K1 hK1=> wp_region_lit <| av J Y Y fun a J=> s0 <| then_n (hK1 _ _ <| wp_seq_k fun K2 hK2=> wp_region_lit <| mv J Y Y fun a J=> mv J Y Y fun a J=> sw J Y Y Y (R.nilCheck (J.ev Y)) fun a J=> sw J Y Y Y (R.fieldAddr (k := 1) Tryz.underlying103 Y nz35 (J.ev Y) Y) fun a J=> sw J Y Y Y (R.fieldAddr (k := 20) Tryz.underlying35 Y nz29 (J.ev Y) Y) fun a J=> sw J Y Y Y (R.loadA (cs := [_, _, _, _, _, _, _, _, _, _, _, _, _, _, _, _, _, _, _, _]) agg29 (J.ev Y) G .h sz29 Y (getAt Y)) fun a J=> ?_)
 have G := (G.sel [0, 1] rfl rfl).flat (bs' := [(F.rb, Cel (rcells F (.slice A stk.length c) V) 103) :: sg]) (by simp [selS])
 refine so (wn Y) (O.callK Y Y J ent125 (J.evs Y) G (who_calls F V stk _ F.cl.caller _ ⟨A, c, sg, Y, hO⟩ (G.own1 .h) hK.caller hl) (fun _=> .h) fun v s11 a w hR J G=> ?_)
 obtain ⟨rfl, hRun2⟩ := hR
 refine av J Y Y fun a J=> s0 <| then_n (hK2 _ _ <| wp_ret (hR _ _ _ _ _ J (run_results Tryz.results81 (.t J Y (.nil))) ?_))
 exact ⟨_, s11, Y, ⟨Y, hRun2⟩, G.one .h⟩
theorem self_op (F : Fx) (V : Vr) (stk : List Nat) (s : Seg) (vx : Value) (w0 : World) (hRun : RunS F V stk s) (ho : Own w0 s) (hK : F.Ok) (hA : RdK w0 (s.map (·.1)) F.aA (F.cl.args.flatMap wc)) (hl : stk.length ≤ 64) : Ret Tryz.prog 82 [.pointer (some ⟨F.rb, 0, none⟩), vx] w0 (s.map (·.1)) (fun v s' => v = .int .i64 0 ∧ RunS F V (stk ++ [adN F.cl.self]) s') := by
 refine fn_start Tryz.func82 Y Tryz.ntmps82 Y [(0, .pointer (some ⟨F.rb, 0, none⟩)), (1, vx)] ⟨Y, Y, trivial⟩ ?_
 intro Q a hP J hR hN
 have G := St.enter ho
 obtain ⟨A, c, sg, hs, hO⟩ := hRun; have G := G.flat (bs' := [[(F.rb, Cel (rcells F (.slice A stk.length c) V) 103)], sg]) (by simp [hs])
 refine wp_seq_k fun K1 hK1=> wp_region_lit <| av J Y Y fun a J=> s0 <| then_n (hK1 _ _ <| wp_seq_k fun K2 hK2=> wp_region_lit <| mv J Y Y fun a J=> mv J Y Y fun a J=> sw J Y Y Y (R.nilCheck (J.ev Y)) fun a J=> sw J Y Y Y (R.fieldAddr (k := 1) Tryz.underlying103 Y nz35 (J.ev Y) Y) fun a J=> sw J Y Y Y (R.fieldAddr (k := 0) Tryz.underlying35 Y nz29 (J.ev Y) Y) fun a J=> sw J Y Y Y (R.loadA (cs := [_, _, _, _, _, _, _, _, _, _, _, _, _, _, _, _, _, _, _, _]) agg29 (J.ev Y) G .h sz29 Y (getAt Y)) fun a J=> ?_)
 have G := (G.sel [0, 1] rfl rfl).flat (bs' := [(F.rb, Cel (rcells F (.slice A stk.length c) V) 103) :: sg]) (by simp [selS])
 refine so (wn Y) (O.callK Y Y J ent125 (J.evs Y) G (who_calls F V stk _ F.cl.self _ ⟨A, c, sg, Y, hO⟩ (G.own1 .h) hK.self hl) (fun _=> .h) fun v s11 a w hR J G=> ?_)
 obtain ⟨rfl, hRun2⟩ := hR
 refine av J Y Y fun a J=> s0 <| then_n (hK2 _ _ <| wp_ret (hR _ _ _ _ _ J (run_results Tryz.results82 (.t J Y (.nil))) ?_))
 exact ⟨_, s11, Y, ⟨Y, hRun2⟩, G.one .h⟩
theorem amount_op (F : Fx) (V : Vr) (stk : List Nat) (s : Seg) (vx : Value) (w0 : World) (hRun : RunS F V stk s) (ho : Own w0 s) (hK : F.Ok) (hA : RdK w0 (s.map (·.1)) F.aA (F.cl.args.flatMap wc)) (hl : stk.length ≤ 64) : Ret Tryz.prog 84 [.pointer (some ⟨F.rb, 0, none⟩), vx] w0 (s.map (·.1)) (fun v s' => v = .int .i64 0 ∧ RunS F V (stk ++ [F.cl.amount]) s') := by
 refine fn_start Tryz.func84 Y Tryz.ntmps84 Y [(0, .pointer (some ⟨F.rb, 0, none⟩)), (1, vx)] ⟨Y, Y, trivial⟩ ?_
 intro Q a hP J hR hN
 have G := St.enter ho
 obtain ⟨A, c, sg, hs, hO⟩ := hRun; have G := G.flat (bs' := [[(F.rb, Cel (rcells F (.slice A stk.length c) V) 103)], sg]) (by simp [hs])
 refine wp_seq_k fun K1 hK1=> wp_region_lit <| av J Y Y fun a J=> s0 <| then_n (hK1 _ _ <| wp_seq_k fun K2 hK2=> wp_region_lit <| mv J Y Y fun a J=> mv J Y Y fun a J=> sw J Y Y Y (R.nilCheck (J.ev Y)) fun a J=> sw J Y Y Y (R.fieldAddr (k := 1) Tryz.underlying103 Y nz35 (J.ev Y) Y) fun a J=> sw J Y Y Y (R.fieldAddr (k := 41) Tryz.underlying35 Y nz32 (J.ev Y) Y) fun a J=> sw J Y Y Y (R.loadA (cs := [_, _, _, _]) agg32 (J.ev Y) G .h sz32 Y (getAt Y)) fun a J=> ?_)
 have G := (G.sel [0, 1] rfl rfl).flat (bs' := [(F.rb, Cel (rcells F (.slice A stk.length c) V) 103) :: sg]) (by simp [selS])
 refine so (wn Y) (O.callK Y Y J ent117 (J.evs Y) G (on_calls F V stk _ (F.cl.amount) _ ⟨A, c, sg, Y, hO⟩ (G.own1 .h) (hl)) (fun _=> .h) fun v s11 a w hR J G=> ?_)
 obtain ⟨rfl, hRun2⟩ := hR
 refine av J Y Y fun a J=> s0 <| then_n (hK2 _ _ <| wp_ret (hR _ _ _ _ _ J (run_results Tryz.results84 (.t J Y (.nil))) ?_))
 exact ⟨_, s11, Y, ⟨Y, hRun2⟩, G.one .h⟩
theorem arg_op (F : Fx) (V : Vr) (stk : List Nat) (s : Seg) (vx : Value) (w0 : World) (hRun : RunS F V stk s) (ho : Own w0 s) (hK : F.Ok) (hA : RdK w0 (s.map (·.1)) F.aA (F.cl.args.flatMap wc)) (hl : stk.length ≤ 64) (hC : RdK w0 (s.map (·.1)) F.cA (byts F.code)) (hp : V.p + 1 < F.code.length) : Ret Tryz.prog 79 [.pointer (some ⟨F.rb, 0, none⟩), vx] w0 (s.map (·.1)) (fun v s' => v = .int .i64 0 ∧ RunS F V (stk ++ [F.cl.args.getD (cAt F.code (V.p + 1)) 0]) s') := by
 refine fn_start Tryz.func79 Y Tryz.ntmps79 Y [(0, .pointer (some ⟨F.rb, 0, none⟩)), (1, vx)] ⟨Y, Y, trivial⟩ ?_
 intro Q a hP J hR hN
 have G := St.enter ho
 obtain ⟨A, c, sg, hs, hO⟩ := hRun; have G := G.flat (bs' := [[(F.rb, Cel (rcells F (.slice A stk.length c) V) 103)], sg]) (by simp [hs]); have hb := cAt_lt hK.byt (V.p + 1); have hcl := callOk_tok hK.call
 refine wp_seq_k fun K1 hK1=> wp_region_lit <| av J Y Y fun a J=> s0 <| then_n (hK1 _ _ <| wp_seq_k fun K2 hK2=> wp_seq_k fun K3 hK3=> wp_region_lit <| mv J Y Y fun a J=> so (wn Y) (O.call Y Y J ent101 (J.evs Y) G (operand_calls F V _ _ (Rd.own0 G .h) (hC.old G) hK.byt hK.len hp) fun v s7 a w hR J G=> ?_))
 obtain ⟨rfl, rfl⟩ := hR
 refine av J Y Y fun a J=> s0 <| then_n (hK3 _ _ <| wp_seq_k fun K4 hK4=> wp_region_lit <| mv J Y Y fun a J=> mv J Y Y fun a J=> sw J Y Y Y (R.nilCheck (J.ev Y)) fun a J=> sw J Y Y Y (R.fieldAddr (k := 1) Tryz.underlying103 Y nz35 (J.ev Y) Y) fun a J=> sw J Y Y Y (R.fieldAddr (k := 45) Tryz.underlying35 Y nz33 (J.ev Y) Y) fun a J=> sw J Y Y Y (R.load one33 (J.ev Y) G (.t .h) (Y)) fun a J=> sw J Y Y Y (R.len Tryz.underlying33 (J.ev Y)) fun a J=> lS J Y Y Y fun a J=> s0 <| then_n (hK4 _ _ <| cD J Y (fun c1=> ?_) (fun c1=> ?_)))
 ·refine wp_seq_k fun K5 hK5=> wp_region_lit <| mv J Y Y fun a J=> mv J Y Y fun a J=> sw J Y Y Y (R.nilCheck (J.ev Y)) fun a J=> sw J Y Y Y (R.fieldAddr (k := 1) Tryz.underlying103 Y nz35 (J.ev Y) Y) fun a J=> sw J Y Y Y (R.fieldAddr (k := 45) Tryz.underlying35 Y nz33 (J.ev Y) Y) fun a J=> sw J Y Y Y (R.load one33 (J.ev Y) G (.t .h) (Y)) fun a J=> mv J Y Y fun a J=> sw J Y Y Y (R.indexO Tryz.underlying33 sz32 (J.ev Y) (Rd.ne (hA.old G) (by rw [wcs_length]; omega)) (J.ev Y) (by omega) (by omega)) fun a J=> sw J Y Y Y (R.loadAO (cs := wc (F.cl.args.getD (cAt F.code (V.p + 1)) 0)) agg32 (J.ev Y) (hA.old G) sz32 Y (Nat.succ_pos _) (arg_at (k := cAt F.code (V.p + 1)) (by omega) (by omega))) fun a J=> ?_
  have G := (G.sel [1, 2] rfl rfl).flat (bs' := [(F.rb, Cel (rcells F (.slice A stk.length c) V) 103) :: sg]) (by simp [selS])
  refine so (wn Y) (O.callK Y Y J ent117 (J.evs Y) G (on_calls F V stk _ (F.cl.args.getD (cAt F.code (V.p + 1)) 0) _ ⟨A, c, sg, Y, hO⟩ (G.own1 .h) (hl)) (fun _=> .h) fun v s25 a w hR J G=> ?_)
  obtain ⟨rfl, hRun2⟩ := hR
  refine av J Y Y fun a J=> s0 <| then_n (hK5 _ _ <| wp_ret (then_r (hR _ _ _ _ _ J (run_results Tryz.results79 (.t J Y (.nil))) ?_)))
  exact ⟨_, s25, Y, ⟨Y, hRun2⟩, G.one .h⟩
 have hz : F.cl.args.getD (cAt F.code (V.p + 1)) 0 = 0 := by rw [List.getD_eq_getElem?_getD, List.getElem?_eq_none (by omega)]; rfl
 refine wp_skip <| then_n (hK2 _ _ <| wp_seq_k fun K6 hK6=> wp_region_lit <| mv J Y Y fun a J=> sw J Y Y Y (R.buildArr (l := [_, _, _, _]) Tryz.underlying32 ze32 sz30 (J.evp Y) Y) fun a J=> ?_)
 have G := (G.sel [1, 2] rfl rfl).flat (bs' := [(F.rb, Cel (rcells F (.slice A stk.length c) V) 103) :: sg]) (by simp [selS])
 refine so (wn Y) (O.callK Y Y J ent117 (J.evs Y) G (on_calls F V stk _ (0) _ ⟨A, c, sg, Y, hO⟩ (G.own1 .h) (hl)) (fun _=> .h) fun v s28 a w hR J G=> ?_)
 obtain ⟨rfl, hRun2⟩ := hR
 refine av J Y Y fun a J=> s0 <| then_n (hK6 _ _ <| wp_ret (hR _ _ _ _ _ J (run_results Tryz.results79 (.t J Y (.nil))) ?_))
 rw [hz]
 exact ⟨_, s28, Y, ⟨Y, hRun2⟩, G.one .h⟩
theorem done_op (F : Fx) (V : Vr) (stk : List Nat) (s : Seg) (vb : Nat) (u : Nat → Nat) (w0 : World) (hRun : RunS F V stk s) (ho : Own w0 s) (hv : RdK w0 (s.map (·.1)) (some ⟨vb, 0, none⟩) (vc u)) (hvM : ∀ i, u i < 115792089237316195423570985008687907853269984665640564039457584007913129639936) (hl : stk.length ≤ 64) : Ret Tryz.prog 64 [.pointer (some ⟨F.rb, 0, none⟩), .slice (some ⟨vb, 0, none⟩) 1 3] w0 (s.map (·.1)) (fun x s' => x = .int .i64 0 ∧ RunS F { V with ended := true, value := u 0 } stk s') := by
 refine fn_start Tryz.func64 Y Tryz.ntmps64 Y [(0, .pointer (some ⟨F.rb, 0, none⟩)), (1, .slice (some ⟨vb, 0, none⟩) 1 3)] ⟨Y, Y, trivial⟩ ?_
 intro Q a hP J hR hN
 have G := St.enter ho
 obtain ⟨A, c, sg, hs, hO⟩ := hRun; have G := G.flat (bs' := [[(F.rb, Cel (rcells F (.slice A stk.length c) V) 103)], sg]) (by simp [hs])
 refine wp_seq_k fun K1 hK1=> wp_region_lit <| av J Y Y fun a J=> s0 <| then_n (hK1 _ _ <| wp_seq_k fun K2 hK2=> wp_region_lit <| mv J Y Y fun a J=> sw J Y Y Y (R.nilCheck (J.ev Y)) fun a J=> sw J Y Y Y (R.fieldAddr (k := 54) Tryz.underlying103 Y nz4 (J.ev Y) Y) fun a J=> ?_)
 refine so (wn Y) (O.store sz4 (J.ev Y) (J.ev Y) Y Y G .h (show List.set _ _ _ = rcells F (.slice A stk.length c) { V with ended := true } from Y) (by first | decide | omega | (show _ < 59; decide) | (show _ < 3; decide) | simp) fun w G=> ?_)
 refine s0 <| then_n (hK2 _ _ <| wp_seq_k fun K3 hK3=> wp_region_lit <| mv J Y Y fun a J=> mv J Y Y fun a J=> sw J Y Y Y (R.indexO Tryz.underlying33 sz32 (J.ev Y) (by simp) (J.ev Y) (by omega) (by omega)) fun a J=> sw J Y Y Y (R.loadAO (cs := wc (u 0)) agg32 (J.ev Y) (hv.old G) sz32 Y (Nat.succ_pos _) (v0_at Y)) fun a J=> sw J Y Y Y (R.nilCheck (J.ev Y)) fun a J=> sw J Y Y Y (R.fieldAddr (k := 55) Tryz.underlying103 Y nz32 (J.ev Y) Y) fun a J=> so (wn Y) (O.storeA sz32 (J.ev Y) (J.ev Y) Y Y (by simp [Value.oneCell']) G .h (show spl _ _ _ = rcells F (.slice A stk.length c) { V with ended := true, value := u 0 } from Y) (by show 55 + 4 ≤ 59; decide) fun w G=> ?_))
 refine s0 <| then_n (hK3 _ _ <| wp_seq_k fun K4 hK4=> wp_region_lit <| av J Y Y fun a J=> s0 <| then_n (hK4 _ _ <| wp_ret (hR _ _ _ _ _ J (run_results Tryz.results64 (.t J Y (.nil))) ?_)))
 obtain ⟨s', h1, h2⟩ := RunS.close (F := F) (V := { V with ended := true, value := u 0 }) (stk := stk) (G.sel [0, 1] rfl rfl) (by simp) (hO)
 exact ⟨_, s', Y, ⟨Y, h1⟩, h2⟩
theorem jump_op (F : Fx) (V : Vr) (stk : List Nat) (s : Seg) (vx : Value) (w0 : World) (hRun : RunS F V stk s) (ho : Own w0 s) (hK : F.Ok) (hC : RdK w0 (s.map (·.1)) F.cA (byts F.code)) (hl : stk.length ≤ 64) (hp : V.p + 3 ≤ F.code.length) : Ret Tryz.prog 77 [.pointer (some ⟨F.rb, 0, none⟩), vx] w0 (s.map (·.1)) (fun x s' => x = .int .i64 0 ∧ RunS F { V with next := targetN F.code V.p } stk s') := by
 refine fn_start Tryz.func77 Y Tryz.ntmps77 Y [(0, .pointer (some ⟨F.rb, 0, none⟩)), (1, vx)] ⟨Y, Y, trivial⟩ ?_
 intro Q a hP J hR hN
 have G := St.enter ho
 obtain ⟨A, c, sg, hs, hO⟩ := hRun; have G := G.flat (bs' := [[(F.rb, Cel (rcells F (.slice A stk.length c) V) 103)], sg]) (by simp [hs])
 refine wp_seq_k fun K1 hK1=> wp_region_lit <| av J Y Y fun a J=> s0 <| then_n (hK1 _ _ <| wp_seq_k fun K2 hK2=> wp_drawG G (G.sel [0] Y Y) [(0, 0), (1, 0), (2, 0), (3, 0), (4, 1), (5, 0), (6, 0), (7, 0), (8, 1), (9, 2), (10, 0), (11, 0), (12, 3)] mix (by kernel_rfl) (hP.then) fun w G hD=> ?_)
 refine dm J Y Y Y fun a J=> dm J Y Y Y fun a J=> dv J Y Y Y Y (fun w=> R.nilCheck (J.ev Y)) fun a J=> dv J Y Y Y Y (fun w=> R.fieldAddr (k := 0) Tryz.underlying103 Y nz22 (J.ev Y) Y) fun a J=> ds J Y Y Y Y hD (fun w hD=> R.load one22 (J.ev Y) hD .h (Y)) fun a J=> ?_
 refine dm J Y Y Y fun a J=> dv J Y Y Y Y (fun w=> R.nilCheck (J.ev Y)) fun a J=> dv J Y Y Y Y (fun w=> R.fieldAddr (k := 52) Tryz.underlying103 Y nz3 (J.ev Y) Y) fun a J=> ds J Y Y Y Y hD (fun w hD=> R.load one3 (J.ev Y) hD .h (Y)) fun a J=> ?_
 refine dl Y (wn Y) (O.call Y Y J ent32 (J.evs Y) G (target_calls F.cA F.code.length F.cc F.code V.p _ (hC.old G) Y hK.cap hK.cap2 hK.byt hp) fun v s14 a w hR J G=> ⟨fun hD=> G.sel [1] Y Y, ?_⟩)
 obtain ⟨rfl, rfl⟩ := hR
 have hD := G.sel [1] rfl rfl
 refine dv J Y Y Y Y (fun w=> R.nilCheck (J.ev Y)) fun a J=> dv J Y Y Y Y (fun w=> R.fieldAddr (k := 53) Tryz.underlying103 Y nz3 (J.ev Y) Y) fun a J=> ?_
 refine dw Y (wn Y) (O.store sz3 (J.ev Y) (J.ev Y) Y Y G (.t .h) (show List.set _ _ _ = rcells F (.slice A stk.length c) { V with next := targetN F.code V.p } from Y) (by first | decide | omega | (show _ < 59; decide) | (show _ < 3; decide) | simp) fun w G=> ?_)
 refine d0 <| then_n (hK2 _ _ <| wp_seq_k fun K3 hK3=> wp_region_lit <| av J Y Y fun a J=> s0 <| then_n (hK3 _ _ <| wp_ret (hR _ _ _ _ _ J (run_results Tryz.results77 (.t J Y (.nil))) ?_)))
 obtain ⟨s', h1, h2⟩ := RunS.close (F := F) (V := { V with next := targetN F.code V.p }) (stk := stk) (G.sel [1, 2] rfl rfl) (by simp) (hO)
 exact ⟨_, s', Y, ⟨Y, h1⟩, h2⟩
theorem when_go (F : Fx) (V : Vr) (stk : List Nat) (s : Seg) (vb : Nat) (u : Nat → Nat) (w0 : World) (hRun : RunS F V stk s) (ho : Own w0 s) (hv : RdK w0 (s.map (·.1)) (some ⟨vb, 0, none⟩) (vc u)) (hvM : ∀ i, u i < 115792089237316195423570985008687907853269984665640564039457584007913129639936) (hl : stk.length ≤ 64) (hK : F.Ok) (hC : RdK w0 (s.map (·.1)) F.cA (byts F.code)) (hp : V.p + 3 ≤ F.code.length) (hz : ¬ u 0 = 0) : Ret Tryz.prog 78 [.pointer (some ⟨F.rb, 0, none⟩), .slice (some ⟨vb, 0, none⟩) 1 3] w0 (s.map (·.1)) (fun x s' => x = .int .i64 0 ∧ RunS F { V with next := targetN F.code V.p } stk s') := by
 refine fn_start Tryz.func78 Y Tryz.ntmps78 Y [(0, .pointer (some ⟨F.rb, 0, none⟩)), (1, .slice (some ⟨vb, 0, none⟩) 1 3)] ⟨Y, Y, trivial⟩ ?_
 intro Q a hP J hR hN
 have G := St.enter ho
 obtain ⟨A, c, sg, hs, hO⟩ := hRun; have G := G.flat (bs' := [[(F.rb, Cel (rcells F (.slice A stk.length c) V) 103)], sg]) (by simp [hs])
 refine wp_seq_k fun K1 hK1=> wp_region_lit <| av J Y Y fun a J=> s0 <| then_n (hK1 _ _ <| wp_seq_k fun K2 hK2=> wp_seq_k fun K3 hK3=> wp_region_lit <| mv J Y Y fun a J=> sw J Y Y Y (R.indexO Tryz.underlying33 sz32 (J.ev Y) (by simp) (J.ev Y) (by omega) (by omega)) fun a J=> sw J Y Y Y (R.loadAO (cs := wc (u 0)) agg32 (J.ev Y) (hv.old G) sz32 Y (Nat.succ_pos _) (v0_at Y)) fun a J=> so (wn Y) (O.call Y Y J ent93 (J.evs Y) G (isZero_calls (u 0) _ (hvM 0)) fun v s8 a w hR J G=> ?_))
 obtain ⟨rfl, rfl⟩ := hR
 rw [show decide (u 0 = 0) = false from decide_eq_false hz] at J
 refine sw J Y Y Y ((by first | exact R.notD (J.ev Y) | exact R.not (J.ev Y))) fun a J=> ?_
 refine s0 <| then_n (hK3 _ _ <| cT J Y <| wp_drawG G (G.sel [1] Y Y) [(0, 0), (1, 0), (2, 0), (3, 0), (4, 1), (5, 0), (6, 0), (7, 0), (8, 1), (9, 2), (10, 0), (11, 0), (12, 3)] mix (by kernel_rfl) (hP.then) fun w G hD=> ?_)
 refine dm J Y Y Y fun a J=> dm J Y Y Y fun a J=> dv J Y Y Y Y (fun w=> R.nilCheck (J.ev Y)) fun a J=> dv J Y Y Y Y (fun w=> R.fieldAddr (k := 0) Tryz.underlying103 Y nz22 (J.ev Y) Y) fun a J=> ds J Y Y Y Y hD (fun w hD=> R.load one22 (J.ev Y) hD .h (Y)) fun a J=> ?_
 refine dm J Y Y Y fun a J=> dv J Y Y Y Y (fun w=> R.nilCheck (J.ev Y)) fun a J=> dv J Y Y Y Y (fun w=> R.fieldAddr (k := 52) Tryz.underlying103 Y nz3 (J.ev Y) Y) fun a J=> ds J Y Y Y Y hD (fun w hD=> R.load one3 (J.ev Y) hD .h (Y)) fun a J=> ?_
 refine dl Y (wn Y) (O.call Y Y J ent32 (J.evs Y) G (target_calls F.cA F.code.length F.cc F.code V.p _ (hC.old G) Y hK.cap hK.cap2 hK.byt hp) fun v s19 a w hR J G=> ⟨fun hD=> G.sel [2] Y Y, ?_⟩)
 obtain ⟨rfl, rfl⟩ := hR
 have hD := G.sel [2] rfl rfl
 refine dv J Y Y Y Y (fun w=> R.nilCheck (J.ev Y)) fun a J=> dv J Y Y Y Y (fun w=> R.fieldAddr (k := 53) Tryz.underlying103 Y nz3 (J.ev Y) Y) fun a J=> ?_
 refine dw Y (wn Y) (O.store sz3 (J.ev Y) (J.ev Y) Y Y G (.t (.t .h)) (show List.set _ _ _ = rcells F (.slice A stk.length c) { V with next := targetN F.code V.p } from Y) (by first | decide | omega | (show _ < 59; decide) | (show _ < 3; decide) | simp) fun w G=> ?_)
 refine d0 <| then_n (hK2 _ _ <| wp_seq_k fun K4 hK4=> wp_region_lit <| av J Y Y fun a J=> s0 <| then_n (hK4 _ _ <| wp_ret (hR _ _ _ _ _ J (run_results Tryz.results78 (.t J Y (.nil))) ?_)))
 obtain ⟨s', h1, h2⟩ := RunS.close (F := F) (V := { V with next := targetN F.code V.p }) (stk := stk) (G.sel [2, 3] rfl rfl) (by simp) (hO)
 exact ⟨_, s', Y, ⟨Y, h1⟩, h2⟩
theorem when_stay (F : Fx) (V : Vr) (stk : List Nat) (s : Seg) (vb : Nat) (u : Nat → Nat) (w0 : World) (hRun : RunS F V stk s) (ho : Own w0 s) (hv : RdK w0 (s.map (·.1)) (some ⟨vb, 0, none⟩) (vc u)) (hvM : ∀ i, u i < 115792089237316195423570985008687907853269984665640564039457584007913129639936) (hl : stk.length ≤ 64) (hK : F.Ok) (hC : RdK w0 (s.map (·.1)) F.cA (byts F.code)) (hp : V.p + 3 ≤ F.code.length) (hz : u 0 = 0) : Ret Tryz.prog 78 [.pointer (some ⟨F.rb, 0, none⟩), .slice (some ⟨vb, 0, none⟩) 1 3] w0 (s.map (·.1)) (fun x s' => x = .int .i64 0 ∧ RunS F V stk s') := by
 refine fn_start Tryz.func78 Y Tryz.ntmps78 Y [(0, .pointer (some ⟨F.rb, 0, none⟩)), (1, .slice (some ⟨vb, 0, none⟩) 1 3)] ⟨Y, Y, trivial⟩ ?_
 intro Q a hP J hR hN
 have G := St.enter ho
 obtain ⟨A, c, sg, hs, hO⟩ := hRun; have G := G.flat (bs' := [[(F.rb, Cel (rcells F (.slice A stk.length c) V) 103)], sg]) (by simp [hs])
 refine wp_seq_k fun K1 hK1=> wp_region_lit <| av J Y Y fun a J=> s0 <| then_n (hK1 _ _ <| wp_seq_k fun K2 hK2=> wp_seq_k fun K3 hK3=> wp_region_lit <| mv J Y Y fun a J=> sw J Y Y Y (R.indexO Tryz.underlying33 sz32 (J.ev Y) (by simp) (J.ev Y) (by omega) (by omega)) fun a J=> sw J Y Y Y (R.loadAO (cs := wc (u 0)) agg32 (J.ev Y) (hv.old G) sz32 Y (Nat.succ_pos _) (v0_at Y)) fun a J=> so (wn Y) (O.call Y Y J ent93 (J.evs Y) G (isZero_calls (u 0) _ (hvM 0)) fun v s8 a w hR J G=> ?_))
 obtain ⟨rfl, rfl⟩ := hR
 rw [show decide (u 0 = 0) = true from decide_eq_true hz] at J
 refine sw J Y Y Y ((by first | exact R.notD (J.ev Y) | exact R.not (J.ev Y))) fun a J=> ?_
 refine s0 <| then_n (hK3 _ _ <| cF J Y <| wp_skip <| then_n (hK2 _ _ <| wp_seq_k fun K4 hK4=> wp_region_lit <| av J Y Y fun a J=> s0 <| then_n (hK4 _ _ <| wp_ret (hR _ _ _ _ _ J (run_results Tryz.results78 (.t J Y (.nil))) ?_))))
 obtain ⟨s', h1, h2⟩ := RunS.close (F := F) (V := V) (stk := stk) (G.sel [1, 2] rfl rfl) (by simp) (hO)
 exact ⟨_, s', Y, ⟨Y, h1⟩, h2⟩
end Go.Proofs.YtlapmbkfmbkdoaaGreatDoor
end
section
namespace Go.Proofs.YtlapmbkfmbkdoaaGreatDoor
open Go Go.Fw Go.RowKit
attribute [local irreducible] Go.Oper.wp Go.Code.wp Go.wpList Go.Fw.WL Go.Calls
theorem own_open3 {s : Seg} {A : Option Addr} {n c : Nat} {cells : List Value} {E : TypeId} {sz : Nat} (h : OwnS s A n c cells E sz) (hn : 0 < n) : ∃ g rest, A = some ⟨g, 0, none⟩ ∧ s = [(g, Cel (cells ++ rest) E)] ∧ n ≤ c ∧ (cells ++ rest).length = c * sz ∧ c ≤ maxLen := by
  obtain ⟨_, h2, h3⟩ := h
  rcases h3 with ⟨rfl, rfl, rfl⟩ | ⟨g, rest, rfl, rfl, h4, h5⟩
  · omega
  · exact ⟨g, rest, rfl, rfl, h2, h4, h5⟩
theorem wcs_atR {l : List Nat} {rest : List Value} {k off : Nat} (hk : k < l.length) (ho : off = k * 4) : ∀ j v, (wc (l.getD k 0))[j]? = some v → (l.flatMap wc ++ rest)[off + j]? = some v := by
  intro j v hj
  have h := wcs_at hk ho j v hj
  rw [List.getElem?_append_left]
  · exact h
  · exact (List.getElem?_eq_some_iff.1 h).1
theorem wcs_splR {l : List Nat} {rest : List Value} {k v off : Nat} (hk : k < l.length) (ho : off = k * 4) : spl (l.flatMap wc ++ rest) off (wc v) = (l.set k v).flatMap wc ++ rest := by
  rw [← wcs_set l k v off hk ho, spl, spl]
  have h1 : off + (wc v).length ≤ (l.flatMap wc).length := by rw [wcs_length]; simp only [List.length_cons, List.length_nil]; omega
  rw [List.take_append_of_le_length (by omega), List.drop_append_of_le_length h1, List.append_assoc, List.append_assoc, List.append_assoc]
set_option maxHeartbeats 2000000 in
theorem dup_op (F : Fx) (V : Vr) (stk : List Nat) (s : Seg) (vx : Value) (w0 : World) (hRun : RunS F V stk s) (ho : Own w0 s) (hK : F.Ok) (hC : RdK w0 (s.map (·.1)) F.cA (byts F.code)) (hl : stk.length ≤ 64) (hp : V.p + 1 < F.code.length) (hb : cAt F.code (V.p + 1) < stk.length) : Ret Tryz.prog 67 [.pointer (some ⟨F.rb, 0, none⟩), vx] w0 (s.map (·.1)) (fun v s' => v = .int .i64 0 ∧ RunS F V (stk ++ [stk.getD (stk.length - 1 - cAt F.code (V.p + 1)) 0]) s') := by
 refine fn_start Tryz.func67 Y Tryz.ntmps67 Y [(0, .pointer (some ⟨F.rb, 0, none⟩)), (1, vx)] ⟨Y, Y, trivial⟩ ?_
 intro Q a hP J hR hN
 have G := St.enter ho
 obtain ⟨A, c, sg, hs, hO⟩ := hRun; have G := G.flat (bs' := [[(F.rb, Cel (rcells F (.slice A stk.length c) V) 103)], sg]) (by simp [hs]); have hb1 := cAt_lt hK.byt (V.p + 1)
 refine wp_seq_k fun K1 hK1=> wp_region_lit <| av J Y Y fun a J=> s0 <| then_n (hK1 _ _ <| wp_seq_k fun K2 hK2=> wp_drawN G (G.sel [] Y Y) [(0, 0), (1, 0), (2, 0), (3, 0), (5, 0), (6, 0), (7, 0), (11, 0), (4, 2), (8, 2), (9, 0), (10, 0), (12, 2), (13, 0), (14, 0), (15, 2), (16, 2), (17, 0)] (.node [(0, 0), (1, 0), (2, 0), (3, 0), (5, 0), (6, 0), (7, 0), (11, 0)] (.node [(4, 2)] (.leaf [(8, 2), (9, 0), (10, 0), (12, 2), (13, 0), (14, 0), (15, 2), (16, 2), (17, 0)]) (.leaf [(12, 2), (8, 2), (9, 0), (10, 0), (13, 0), (14, 0), (15, 2), (16, 2), (17, 0)])) (.node [] (.node [(8, 2), (9, 0), (10, 0)] (.leaf [(4, 2), (12, 2), (13, 0), (14, 0), (15, 2), (16, 2), (17, 0)]) (.leaf [(12, 2), (13, 0), (4, 2), (14, 0), (15, 2), (16, 2), (17, 0)])) (.node [(12, 2)] (.leaf [(4, 2), (8, 2), (9, 0), (10, 0), (13, 0), (14, 0), (15, 2), (16, 2), (17, 0)]) (.leaf [(8, 2), (9, 0), (10, 0), (13, 0), (4, 2), (14, 0), (15, 2), (16, 2), (17, 0)])))) mix (by kernel_rfl) (hP.then) fun w G hD=> ?_)
 refine dm J Y Y Y fun a J=> dm J Y Y Y fun a J=> dv J Y Y Y Y (fun w=> R.nilCheck (J.ev Y)) fun a J=> dv J Y Y Y Y (fun w=> R.fieldAddr (k := 50) Tryz.underlying103 Y nz33 (J.ev Y) Y) fun a J=> dm J Y Y Y fun a J=> dv J Y Y Y Y (fun w=> R.nilCheck (J.ev Y)) fun a J=> dv J Y Y Y Y (fun w=> R.fieldAddr (k := 50) Tryz.underlying103 Y nz33 (J.ev Y) Y) fun a J=> dm J Y Y Y fun a J=> d0 <| ⟨?_, nd0 ⟨?_, ?_⟩⟩
 ·refine dl Y (wn Y) (O.val J Y Y (R.load one33 (J.ev Y) G .h (Y)) fun a J=> ⟨id, ?_⟩)
  refine d0 <| ⟨?_, ?_⟩
  ·refine dl Y (wn Y) (O.val J Y Y (R.load one33 (J.ev Y) G .h (Y)) fun a J=> ⟨id, ?_⟩)
   refine dv J Y Y Y Y (fun w=> R.len Tryz.underlying33 (J.ev Y)) fun a J=> dv J Y Y Y Y (fun w=> R.subI (J.ev Y) (J.ev Y) (by omega)) fun a J=> dl Y (wn Y) (O.call Y Y J ent101 (J.evs Y) G (operand_calls F V _ _ (Rd.own0 G .h) (hC.old G) hK.byt hK.len hp) fun v s17 a w hR J G=> ⟨fun hD=> G.sel [] Y Y, ?_⟩)
   obtain ⟨rfl, rfl⟩ := hR
   have hD := G.sel [] rfl rfl
   refine dv J Y Y Y Y (fun w=> R.subI (J.ev Y) (J.ev Y) (by omega)) fun a J=> dv J Y Y Y Y (fun w=> R.indexO Tryz.underlying33 sz32 (J.ev Y) (Rd.ne (hO.rd G (.t (.t .h))) (by rw [wcs_length]; omega)) (J.ev Y) (by omega) (by omega)) fun a J=> dl Y (wn Y) (O.val J Y Y (R.loadAO (cs := wc (stk.getD (stk.length - 1 - cAt F.code (V.p + 1)) 0)) agg32 (J.ev Y) (hO.rd G (.t (.t .h))) sz32 Y (Nat.succ_pos _) (wcs_at (k := stk.length - 1 - cAt F.code (V.p + 1)) (by omega) (by omega))) fun a J=> ⟨id, ?_⟩)
   have G := (G.sel [1, 2] rfl rfl).flat (bs' := [(F.rb, Cel (rcells F (.slice A stk.length c) V) 103) :: sg]) (by simp [selS])
   refine dl Y (wn Y) (O.callK Y Y J ent117 (J.evs Y) G (on_calls F V stk _ (stk.getD (stk.length - 1 - cAt F.code (V.p + 1)) 0) _ ⟨A, c, sg, Y, hO⟩ (G.own1 .h) (hl)) (fun _=> .h) fun v s21 a w hR J G=> ⟨fun hD=> G.sel [] Y Y, ?_⟩)
   obtain ⟨rfl, hRun2⟩ := hR
   have hD := G.sel [] rfl rfl
   refine da J Y Y Y fun a J=> d0 <| then_n (hK2 _ _ <| wp_ret (hR _ _ _ _ _ J (run_results Tryz.results67 (.t J Y (.nil))) ?_))
   exact ⟨_, s21, Y, ⟨Y, hRun2⟩, G.one .h⟩
  refine dl Y (wn Y) (O.call Y Y J ent101 (J.evs Y) G (operand_calls F V _ _ (Rd.own0 G .h) (hC.old G) hK.byt hK.len hp) fun v s17 a w hR J G=> ⟨fun hD=> G.sel [] Y Y, ?_⟩)
  obtain ⟨rfl, rfl⟩ := hR
  have hD := G.sel [] rfl rfl
  refine dl Y (wn Y) (O.val J Y Y (R.load one33 (J.ev Y) G (.t .h) (Y)) fun a J=> ⟨id, ?_⟩)
  refine dv J Y Y Y Y (fun w=> R.len Tryz.underlying33 (J.ev Y)) fun a J=> dv J Y Y Y Y (fun w=> R.subI (J.ev Y) (J.ev Y) (by omega)) fun a J=> dv J Y Y Y Y (fun w=> R.subI (J.ev Y) (J.ev Y) (by omega)) fun a J=> dv J Y Y Y Y (fun w=> R.indexO Tryz.underlying33 sz32 (J.ev Y) (Rd.ne (hO.rd G (.t (.t .h))) (by rw [wcs_length]; omega)) (J.ev Y) (by omega) (by omega)) fun a J=> dl Y (wn Y) (O.val J Y Y (R.loadAO (cs := wc (stk.getD (stk.length - 1 - cAt F.code (V.p + 1)) 0)) agg32 (J.ev Y) (hO.rd G (.t (.t .h))) sz32 Y (Nat.succ_pos _) (wcs_at (k := stk.length - 1 - cAt F.code (V.p + 1)) (by omega) (by omega))) fun a J=> ⟨id, ?_⟩)
  have G := (G.sel [1, 2] rfl rfl).flat (bs' := [(F.rb, Cel (rcells F (.slice A stk.length c) V) 103) :: sg]) (by simp [selS])
  refine dl Y (wn Y) (O.callK Y Y J ent117 (J.evs Y) G (on_calls F V stk _ (stk.getD (stk.length - 1 - cAt F.code (V.p + 1)) 0) _ ⟨A, c, sg, Y, hO⟩ (G.own1 .h) (hl)) (fun _=> .h) fun v s21 a w hR J G=> ⟨fun hD=> G.sel [] Y Y, ?_⟩)
  obtain ⟨rfl, hRun2⟩ := hR
  have hD := G.sel [] rfl rfl
  refine da J Y Y Y fun a J=> d0 <| then_n (hK2 _ _ <| wp_ret (hR _ _ _ _ _ J (run_results Tryz.results67 (.t J Y (.nil))) ?_))
  exact ⟨_, s21, Y, ⟨Y, hRun2⟩, G.one .h⟩
 ·refine dl Y (wn Y) (O.val J Y Y (R.load one33 (J.ev Y) G .h (Y)) fun a J=> ⟨id, ?_⟩)
  refine dv J Y Y Y Y (fun w=> R.len Tryz.underlying33 (J.ev Y)) fun a J=> dv J Y Y Y Y (fun w=> R.subI (J.ev Y) (J.ev Y) (by omega)) fun a J=> d0 <| ⟨?_, ?_⟩
  ·refine dl Y (wn Y) (O.val J Y Y (R.load one33 (J.ev Y) G .h (Y)) fun a J=> ⟨id, ?_⟩)
   refine dl Y (wn Y) (O.call Y Y J ent101 (J.evs Y) G (operand_calls F V _ _ (Rd.own0 G .h) (hC.old G) hK.byt hK.len hp) fun v s17 a w hR J G=> ⟨fun hD=> G.sel [] Y Y, ?_⟩)
   obtain ⟨rfl, rfl⟩ := hR
   have hD := G.sel [] rfl rfl
   refine dv J Y Y Y Y (fun w=> R.subI (J.ev Y) (J.ev Y) (by omega)) fun a J=> dv J Y Y Y Y (fun w=> R.indexO Tryz.underlying33 sz32 (J.ev Y) (Rd.ne (hO.rd G (.t (.t .h))) (by rw [wcs_length]; omega)) (J.ev Y) (by omega) (by omega)) fun a J=> dl Y (wn Y) (O.val J Y Y (R.loadAO (cs := wc (stk.getD (stk.length - 1 - cAt F.code (V.p + 1)) 0)) agg32 (J.ev Y) (hO.rd G (.t (.t .h))) sz32 Y (Nat.succ_pos _) (wcs_at (k := stk.length - 1 - cAt F.code (V.p + 1)) (by omega) (by omega))) fun a J=> ⟨id, ?_⟩)
   have G := (G.sel [1, 2] rfl rfl).flat (bs' := [(F.rb, Cel (rcells F (.slice A stk.length c) V) 103) :: sg]) (by simp [selS])
   refine dl Y (wn Y) (O.callK Y Y J ent117 (J.evs Y) G (on_calls F V stk _ (stk.getD (stk.length - 1 - cAt F.code (V.p + 1)) 0) _ ⟨A, c, sg, Y, hO⟩ (G.own1 .h) (hl)) (fun _=> .h) fun v s21 a w hR J G=> ⟨fun hD=> G.sel [] Y Y, ?_⟩)
   obtain ⟨rfl, hRun2⟩ := hR
   have hD := G.sel [] rfl rfl
   refine da J Y Y Y fun a J=> d0 <| then_n (hK2 _ _ <| wp_ret (hR _ _ _ _ _ J (run_results Tryz.results67 (.t J Y (.nil))) ?_))
   exact ⟨_, s21, Y, ⟨Y, hRun2⟩, G.one .h⟩
  refine dl Y (wn Y) (O.call Y Y J ent101 (J.evs Y) G (operand_calls F V _ _ (Rd.own0 G .h) (hC.old G) hK.byt hK.len hp) fun v s17 a w hR J G=> ⟨fun hD=> G.sel [] Y Y, ?_⟩)
  obtain ⟨rfl, rfl⟩ := hR
  have hD := G.sel [] rfl rfl
  refine dv J Y Y Y Y (fun w=> R.subI (J.ev Y) (J.ev Y) (by omega)) fun a J=> dl Y (wn Y) (O.val J Y Y (R.load one33 (J.ev Y) G (.t .h) (Y)) fun a J=> ⟨id, ?_⟩)
  refine dv J Y Y Y Y (fun w=> R.indexO Tryz.underlying33 sz32 (J.ev Y) (Rd.ne (hO.rd G (.t (.t .h))) (by rw [wcs_length]; omega)) (J.ev Y) (by omega) (by omega)) fun a J=> dl Y (wn Y) (O.val J Y Y (R.loadAO (cs := wc (stk.getD (stk.length - 1 - cAt F.code (V.p + 1)) 0)) agg32 (J.ev Y) (hO.rd G (.t (.t .h))) sz32 Y (Nat.succ_pos _) (wcs_at (k := stk.length - 1 - cAt F.code (V.p + 1)) (by omega) (by omega))) fun a J=> ⟨id, ?_⟩)
  have G := (G.sel [1, 2] rfl rfl).flat (bs' := [(F.rb, Cel (rcells F (.slice A stk.length c) V) 103) :: sg]) (by simp [selS])
  refine dl Y (wn Y) (O.callK Y Y J ent117 (J.evs Y) G (on_calls F V stk _ (stk.getD (stk.length - 1 - cAt F.code (V.p + 1)) 0) _ ⟨A, c, sg, Y, hO⟩ (G.own1 .h) (hl)) (fun _=> .h) fun v s21 a w hR J G=> ⟨fun hD=> G.sel [] Y Y, ?_⟩)
  obtain ⟨rfl, hRun2⟩ := hR
  have hD := G.sel [] rfl rfl
  refine da J Y Y Y fun a J=> d0 <| then_n (hK2 _ _ <| wp_ret (hR _ _ _ _ _ J (run_results Tryz.results67 (.t J Y (.nil))) ?_))
  exact ⟨_, s21, Y, ⟨Y, hRun2⟩, G.one .h⟩
 refine dl Y (wn Y) (O.call Y Y J ent101 (J.evs Y) G (operand_calls F V _ _ (Rd.own0 G .h) (hC.old G) hK.byt hK.len hp) fun v s17 a w hR J G=> ⟨fun hD=> G.sel [] Y Y, ?_⟩)
 obtain ⟨rfl, rfl⟩ := hR
 have hD := G.sel [] rfl rfl
 refine d0 <| ⟨?_, ?_⟩
 ·refine dl Y (wn Y) (O.val J Y Y (R.load one33 (J.ev Y) G (.t .h) (Y)) fun a J=> ⟨id, ?_⟩)
  refine dl Y (wn Y) (O.val J Y Y (R.load one33 (J.ev Y) G (.t .h) (Y)) fun a J=> ⟨id, ?_⟩)
  refine dv J Y Y Y Y (fun w=> R.len Tryz.underlying33 (J.ev Y)) fun a J=> dv J Y Y Y Y (fun w=> R.subI (J.ev Y) (J.ev Y) (by omega)) fun a J=> dv J Y Y Y Y (fun w=> R.subI (J.ev Y) (J.ev Y) (by omega)) fun a J=> dv J Y Y Y Y (fun w=> R.indexO Tryz.underlying33 sz32 (J.ev Y) (Rd.ne (hO.rd G (.t (.t .h))) (by rw [wcs_length]; omega)) (J.ev Y) (by omega) (by omega)) fun a J=> dl Y (wn Y) (O.val J Y Y (R.loadAO (cs := wc (stk.getD (stk.length - 1 - cAt F.code (V.p + 1)) 0)) agg32 (J.ev Y) (hO.rd G (.t (.t .h))) sz32 Y (Nat.succ_pos _) (wcs_at (k := stk.length - 1 - cAt F.code (V.p + 1)) (by omega) (by omega))) fun a J=> ⟨id, ?_⟩)
  have G := (G.sel [1, 2] rfl rfl).flat (bs' := [(F.rb, Cel (rcells F (.slice A stk.length c) V) 103) :: sg]) (by simp [selS])
  refine dl Y (wn Y) (O.callK Y Y J ent117 (J.evs Y) G (on_calls F V stk _ (stk.getD (stk.length - 1 - cAt F.code (V.p + 1)) 0) _ ⟨A, c, sg, Y, hO⟩ (G.own1 .h) (hl)) (fun _=> .h) fun v s21 a w hR J G=> ⟨fun hD=> G.sel [] Y Y, ?_⟩)
  obtain ⟨rfl, hRun2⟩ := hR
  have hD := G.sel [] rfl rfl
  refine da J Y Y Y fun a J=> d0 <| then_n (hK2 _ _ <| wp_ret (hR _ _ _ _ _ J (run_results Tryz.results67 (.t J Y (.nil))) ?_))
  exact ⟨_, s21, Y, ⟨Y, hRun2⟩, G.one .h⟩
 refine dl Y (wn Y) (O.val J Y Y (R.load one33 (J.ev Y) G (.t .h) (Y)) fun a J=> ⟨id, ?_⟩)
 refine dv J Y Y Y Y (fun w=> R.len Tryz.underlying33 (J.ev Y)) fun a J=> dv J Y Y Y Y (fun w=> R.subI (J.ev Y) (J.ev Y) (by omega)) fun a J=> dv J Y Y Y Y (fun w=> R.subI (J.ev Y) (J.ev Y) (by omega)) fun a J=> dl Y (wn Y) (O.val J Y Y (R.load one33 (J.ev Y) G (.t .h) (Y)) fun a J=> ⟨id, ?_⟩)
 refine dv J Y Y Y Y (fun w=> R.indexO Tryz.underlying33 sz32 (J.ev Y) (Rd.ne (hO.rd G (.t (.t .h))) (by rw [wcs_length]; omega)) (J.ev Y) (by omega) (by omega)) fun a J=> dl Y (wn Y) (O.val J Y Y (R.loadAO (cs := wc (stk.getD (stk.length - 1 - cAt F.code (V.p + 1)) 0)) agg32 (J.ev Y) (hO.rd G (.t (.t .h))) sz32 Y (Nat.succ_pos _) (wcs_at (k := stk.length - 1 - cAt F.code (V.p + 1)) (by omega) (by omega))) fun a J=> ⟨id, ?_⟩)
 have G := (G.sel [1, 2] rfl rfl).flat (bs' := [(F.rb, Cel (rcells F (.slice A stk.length c) V) 103) :: sg]) (by simp [selS])
 refine dl Y (wn Y) (O.callK Y Y J ent117 (J.evs Y) G (on_calls F V stk _ (stk.getD (stk.length - 1 - cAt F.code (V.p + 1)) 0) _ ⟨A, c, sg, Y, hO⟩ (G.own1 .h) (hl)) (fun _=> .h) fun v s21 a w hR J G=> ⟨fun hD=> G.sel [] Y Y, ?_⟩)
 obtain ⟨rfl, hRun2⟩ := hR
 have hD := G.sel [] rfl rfl
 refine da J Y Y Y fun a J=> d0 <| then_n (hK2 _ _ <| wp_ret (hR _ _ _ _ _ J (run_results Tryz.results67 (.t J Y (.nil))) ?_))
 exact ⟨_, s21, Y, ⟨Y, hRun2⟩, G.one .h⟩
theorem swap_op (F : Fx) (V : Vr) (stk : List Nat) (s : Seg) (vx : Value) (w0 : World) (hRun : RunS F V stk s) (ho : Own w0 s) (hK : F.Ok) (hC : RdK w0 (s.map (·.1)) F.cA (byts F.code)) (hl : stk.length ≤ 64) (hp : V.p + 1 < F.code.length) (hb : cAt F.code (V.p + 1) < stk.length) : Ret Tryz.prog 68 [.pointer (some ⟨F.rb, 0, none⟩), vx] w0 (s.map (·.1)) (fun v s' => v = .int .i64 0 ∧ RunS F V (swapN stk (cAt F.code (V.p + 1))) s') := by
 refine fn_start Tryz.func68 Y Tryz.ntmps68 Y [(0, .pointer (some ⟨F.rb, 0, none⟩)), (1, vx)] ⟨Y, Y, trivial⟩ ?_
 intro Q a hP J hR hN
 have G := St.enter ho
 obtain ⟨A, c, sg, hs, hO⟩ := hRun; obtain ⟨g, rest, rfl, rfl, hnc, hcl, hcm⟩ := own_open3 hO (by omega); have G := G.flat (bs' := [[(F.rb, Cel (rcells F (.slice (some ⟨g, 0, none⟩) stk.length c) V) 103)], [(g, Cel (stk.flatMap wc ++ rest) 32)]]) (by simp [hs]); have hb1 := cAt_lt hK.byt (V.p + 1)
 refine wp_seq_k fun K1 hK1=> wp_region_lit <| av J Y Y fun a J=> s0 <| then_n (hK1 _ _ <| wp_seq_k fun K2 hK2=> wp_region_lit <| mv J Y Y fun a J=> sw J Y Y Y (R.nilCheck (J.ev Y)) fun a J=> sw J Y Y Y (R.fieldAddr (k := 50) Tryz.underlying103 Y nz33 (J.ev Y) Y) fun a J=> sw J Y Y Y (R.load one33 (J.ev Y) G .h (Y)) fun a J=> sw J Y Y Y (R.len Tryz.underlying33 (J.ev Y)) fun a J=> sw J Y Y Y (R.subI (J.ev Y) (J.ev Y) (by omega)) fun a J=> av J Y Y fun a J=> s0 <| then_n (hK2 _ _ <| wp_seq_k fun K3 hK3=> wp_region_lit <| mv J Y Y fun a J=> mv J Y Y fun a J=> so (wn Y) (O.call Y Y J ent101 (J.evs Y) G (operand_calls F V _ _ (Rd.own0 G .h) (hC.old G) hK.byt hK.len hp) fun v s15 a w hR J G=> ?_)))
 obtain ⟨rfl, rfl⟩ := hR
 refine sw J Y Y Y (R.subI (J.ev Y) (J.ev Y) (by omega)) fun a J=> av J Y Y fun a J=> s0 <| then_n (hK3 _ _ <| wp_seq_k fun K4 hK4=> wp_drawS G [(0, 0), (1, 0), (2, 0), (3, 1), (4, 0), (5, 0), (6, 0), (7, 0), (8, 1), (9, 0), (10, 0), (11, 0), (12, 0), (13, 1), (14, 0), (15, 0), (16, 1), (17, 0), (18, 0), (19, 0), (20, 1), (21, 0), (22, 0), (23, 1), (24, 0), (25, 3), (26, 0), (27, 3)] mix (by kernel_rfl) (hP.then) fun w G=> ?_)
 have hD := G
 refine dm J Y Y Y fun a J=> dv J Y Y Y Y (fun w=> R.nilCheck (J.ev Y)) fun a J=> dv J Y Y Y Y (fun w=> R.fieldAddr (k := 50) Tryz.underlying103 Y nz33 (J.ev Y) Y) fun a J=> ds J Y Y Y Y hD (fun w hD=> R.load one33 (J.ev Y) hD (.t .h) (Y)) fun a J=> ?_
 refine dm J Y Y Y fun a J=> dm J Y Y Y fun a J=> dv J Y Y Y Y (fun w=> R.nilCheck (J.ev Y)) fun a J=> dv J Y Y Y Y (fun w=> R.fieldAddr (k := 50) Tryz.underlying103 Y nz33 (J.ev Y) Y) fun a J=> ds J Y Y Y Y hD (fun w hD=> R.load one33 (J.ev Y) hD (.t .h) (Y)) fun a J=> ?_
 refine dm J Y Y Y fun a J=> dm J Y Y Y fun a J=> dv J Y Y Y Y (fun w=> R.nilCheck (J.ev Y)) fun a J=> dv J Y Y Y Y (fun w=> R.fieldAddr (k := 50) Tryz.underlying103 Y nz33 (J.ev Y) Y) fun a J=> ds J Y Y Y Y hD (fun w hD=> R.load one33 (J.ev Y) hD (.t .h) (Y)) fun a J=> ?_
 refine dm J Y Y Y fun a J=> dv J Y Y Y Y (fun w=> R.indexS Tryz.underlying33 sz32 (J.ev Y) (J.ev Y) (by omega) (by omega)) fun a J=> ds J Y Y Y Y hD (fun w hD=> R.loadA (cs := wc (stk.getD (stk.length - 1 - cAt F.code (V.p + 1)) 0)) agg32 (J.ev Y) hD (.t (.t .h)) sz32 Y (wcs_atR (k := stk.length - 1 - cAt F.code (V.p + 1)) (by omega) (by omega))) fun a J=> ?_
 refine dm J Y Y Y fun a J=> dv J Y Y Y Y (fun w=> R.nilCheck (J.ev Y)) fun a J=> dv J Y Y Y Y (fun w=> R.fieldAddr (k := 50) Tryz.underlying103 Y nz33 (J.ev Y) Y) fun a J=> ds J Y Y Y Y hD (fun w hD=> R.load one33 (J.ev Y) hD (.t .h) (Y)) fun a J=> ?_
 refine dm J Y Y Y fun a J=> dv J Y Y Y Y (fun w=> R.indexS Tryz.underlying33 sz32 (J.ev Y) (J.ev Y) (by omega) (by omega)) fun a J=> ds J Y Y Y Y hD (fun w hD=> R.loadA (cs := wc (stk.getD (stk.length - 1) 0)) agg32 (J.ev Y) hD (.t (.t .h)) sz32 Y (wcs_atR (k := stk.length - 1) (by omega) (by omega))) fun a J=> ?_
 refine dv J Y Y Y Y (fun w=> R.indexS Tryz.underlying33 sz32 (J.ev Y) (J.ev Y) (by omega) (by omega)) fun a J=> dw Y (wn Y) (O.storeA sz32 (J.ev Y) (J.ev Y) Y Y (by simp [Value.oneCell']) G (.t (.t .h)) (wcs_splR (k := stk.length - 1) (by omega) (by omega)) (by rw [hcl]; simp only [List.length_cons, List.length_nil]; omega) fun w G=> ?_)
 refine dv J Y Y Y Y (fun w=> R.indexS Tryz.underlying33 sz32 (J.ev Y) (J.ev Y) (by omega) (by omega)) fun a J=> dw Y (wn Y) (O.storeA sz32 (J.ev Y) (J.ev Y) Y Y (by simp [Value.oneCell']) G (.t (.t .h)) (wcs_splR (k := stk.length - 1 - cAt F.code (V.p + 1)) (by rw [List.length_set]; omega) (by omega)) (by rw [List.length_append, wcs_length, List.length_set, ← wcs_length, ← List.length_append, hcl]; simp only [List.length_cons, List.length_nil]; omega) fun w G=> ?_)
 refine d0 <| then_n (hK4 _ _ <| wp_seq_k fun K5 hK5=> wp_region_lit <| av J Y Y fun a J=> s0 <| then_n (hK5 _ _ <| wp_ret (hR _ _ _ _ _ J (run_results Tryz.results68 (.t J Y (.nil))) ?_)))
 obtain ⟨s', h1, h2⟩ := RunS.close (F := F) (V := V) (stk := swapN stk (cAt F.code (V.p + 1))) (G.sel [1, 2] rfl rfl) (by simp [swapN]) (OwnS.mk (by rw [wcs_length]; simp [swapN]) hnc (by (have h9 := hcl; rw [List.length_append, wcs_length] at h9 ⊢; simp only [List.length_set, swapN]; exact h9)) hcm)
 exact ⟨_, s', Y, ⟨Y, h1⟩, h2⟩
theorem one_byts (l : List Nat) : ∀ v ∈ byts l, v.oneCell' = true := by
  intro v hv
  rw [byts] at hv
  obtain ⟨_, _, rfl⟩ := List.mem_map.1 hv
  rfl
theorem spl_push {l : List Nat} {k : Nat} (h : l.length = k) (hk : k ≤ 32) : spl (byts (List.replicate 32 0)) ((32 - k) * 1) ((byts l).take (min k (32 - (32 - k)) * 1)) = byts (List.replicate (32 - k) 0 ++ l) := by
  have e : min k (32 - (32 - k)) = k := by omega
  rw [e, Nat.mul_one, Nat.mul_one, List.take_of_length_le (by rw [length_byts]; omega)]
  subst h
  exact spl_end hk
theorem push_op (F : Fx) (V : Vr) (stk : List Nat) (s : Seg) (vx : Value) (k : Nat) (w0 : World) (hRun : RunS F V stk s) (ho : Own w0 s) (hK : F.Ok) (hC : RdK w0 (s.map (·.1)) F.cA (byts F.code)) (hl : stk.length ≤ 64) (hk : 1 ≤ k ∧ k ≤ 32) (hp : V.p + 2 + k ≤ F.code.length) (hq : V.next = V.p + 2 + k) : Ret Tryz.prog 65 [.pointer (some ⟨F.rb, 0, none⟩), vx] w0 (s.map (·.1)) (fun v s' => v = .int .i64 0 ∧ RunS F V (stk ++ [numB ((F.code.drop (V.p + 2)).take k)]) s') := by
 refine fn_start Tryz.func65 Y Tryz.ntmps65 Y [(0, .pointer (some ⟨F.rb, 0, none⟩)), (1, vx)] ⟨Y, Y, trivial⟩ ?_
 intro Q a hP J hR hN
 have G := St.enter ho
 obtain ⟨A, c, sg, hs, hO⟩ := hRun; have G := G.flat (bs' := [[(F.rb, Cel (rcells F (.slice A stk.length c) V) 103)], sg]) (by simp [hs]); have hlk : ((F.code.drop (V.p + 2)).take k).length = k := by (rw [List.length_take, List.length_drop]; omega)
 have hBk : Byt ((F.code.drop (V.p + 2)).take k) := fun d hd => hK.byt d (List.drop_subset _ _ (List.take_subset _ _ hd))
 have hl10 := hK.len; have hcap := hK.cap
 refine wp_seq_k fun K1 hK1=> wp_region_lit <| av J Y Y fun a J=> s0 <| then_n (hK1 _ _ <| wp_seq_k fun K2 hK2=> wp_region_lit <| so (wn Y) (O.alloc Y Y J ze101b Y G fun b5 a w J G=> ?_))
 refine s0 <| then_n (hK2 _ _ <| wp_seq_k fun K3 hK3=> wp_drawS G [(0, 0), (1, 0), (2, 0), (3, 1), (4, 0), (5, 0), (6, 0), (7, 1), (8, 0), (9, 0), (10, 0), (11, 0), (12, 1), (13, 0), (14, 0)] mix (by kernel_rfl) (hP.then) fun w G=> ?_)
 have hD := G
 refine dm J Y Y Y fun a J=> dv J Y Y Y Y (fun w=> R.nilCheck (J.ev Y)) fun a J=> dv J Y Y Y Y (fun w=> R.fieldAddr (k := 0) Tryz.underlying103 Y nz22 (J.ev Y) Y) fun a J=> ds J Y Y Y Y hD (fun w hD=> R.load one22 (J.ev Y) hD (.t .h) (Y)) fun a J=> ?_
 refine dm J Y Y Y fun a J=> dv J Y Y Y Y (fun w=> R.nilCheck (J.ev Y)) fun a J=> dv J Y Y Y Y (fun w=> R.fieldAddr (k := 52) Tryz.underlying103 Y nz3 (J.ev Y) Y) fun a J=> ds J Y Y Y Y hD (fun w hD=> R.load one3 (J.ev Y) hD (.t .h) (Y)) fun a J=> ?_
 refine dv J Y Y Y Y (fun w=> R.addI (J.ev Y) (J.ev Y) (by omega)) fun a J=> dm J Y Y Y fun a J=> dv J Y Y Y Y (fun w=> R.nilCheck (J.ev Y)) fun a J=> dv J Y Y Y Y (fun w=> R.fieldAddr (k := 53) Tryz.underlying103 Y nz3 (J.ev Y) Y) fun a J=> ds J Y Y Y Y hD (fun w hD=> R.load one3 (J.ev Y) hD (.t .h) (Y)) fun a J=> ?_
 refine dv J Y Y Y Y (fun w=> R.as (u := .slice (if F.cc = V.p + 2 then F.cA else F.cA.map (·.add ((V.p + 2) * 1))) k (F.cc - (V.p + 2))) (R.sliceMid (p := V.p + 2) (q := V.next) Tryz.underlying22 (J.ev Y) ((J.ev Y).trans (congrArg (Value.int .i64) (by omega))) (J.ev Y) (by omega) (by omega) sz5) (congrArg (fun z=> Value.slice _ z _) (by omega))) fun a J=> da J Y Y Y fun a J=> d0 <| then_n (hK3 _ _ <| wp_seq_k fun K4 hK4=> wp_region_lit <| mv J Y Y fun a J=> sw J Y Y Y (R.len Tryz.underlying22 (J.ev Y)) fun a J=> sw J Y Y Y (R.subI (J.ev Y) (J.ev Y) (by omega)) fun a J=> sw J Y Y Y (R.sliceArrLo (p := 32 - k) Tryz.underlying83 sz5 (J.ev Y) ((J.ev Y).trans (congrArg (Value.int .i64) (by omega))) (by omega)) fun a J=> mv J Y Y fun a J=> ?_)
 have hrd : Rd w (if F.cc = V.p + 2 then F.cA else F.cA.map (·.add ((V.p + 2) * 1))) (byts ((F.code.drop (V.p + 2)).take k)) := by (rw [← byts_takeK]; exact (rd_dropB (hC.old G) hK.cap (V.p + 2)).sub k)
 refine so (wn Y) (O.copyAt (cs := byts ((F.code.drop (V.p + 2)).take k)) Y Y J Tryz.underlying22 sz5 (J.ev Y) (J.ev Y) G hrd (by rw [length_byts, hlk, Nat.mul_one]) (by decide) (one_byts _) .h (spl_push hlk (by omega)) (by rw [length_byts]; simp; omega) fun a w J G=> ?_)
 refine s0 <| then_n (hK4 _ _ <| wp_seq_k fun K5 hK5=> wp_region_lit <| sw J Y Y Y (R.sliceAll Tryz.underlying83 sz5 (J.ev Y)) fun a J=> so (wn Y) (O.call Y Y J ent37 (J.evs Y) G (read32_calls ((F.code.drop (V.p + 2)).take k) (32 - k) _ (Rd.own0 G .h) (by rw [hlk]; omega) hBk) fun v s31 a w hR J G=> ?_))
 obtain ⟨rfl, rfl⟩ := hR
 refine mv J Y Y fun a J=> xv J Y Y Y fun a J=> xv J Y Y Y fun a J=> so (wn Y) (O.alloc Y Y J ze32 Y G fun b7 a w J G=> ?_)
 refine so (wn Y) (O.storeW sz32 (J.ev Y) (J.ev Y) (Y) Y (by simp [Value.oneCell']) G .h (Y) fun w G=> ?_)
 refine av J Y Y fun a J=> s0 <| then_n (hK5 _ _ <| wp_seq_k fun K6 hK6=> wp_seq_k fun K7 hK7=> wp_region_lit <| mv J Y Y fun a J=> sw J Y Y Y (R.as (u := .bool false) (R.neq (p := 0) (q := 0) (J.ev Y) (J.ev Y)) (Y)) fun a J=> s0 <| then_n (hK7 _ _ <| cF J Y <| wp_skip <| then_n (hK6 _ _ <| wp_seq_k fun K8 hK8=> wp_region_lit <| mv J Y Y fun a J=> sw J Y Y Y (R.loadW agg32 (J.ev Y) G .h sz32 (Y)) fun a J=> ?_)))
 have G := (G.sel [3, 4] rfl rfl).flat (bs' := [(F.rb, Cel (rcells F (.slice A stk.length c) V) 103) :: sg]) (by simp [selS])
 refine so (wn Y) (O.callK Y Y J ent117 (J.evs Y) G (on_calls F V stk _ (numB ((F.code.drop (V.p + 2)).take k)) _ ⟨A, c, sg, Y, hO⟩ (G.own1 .h) (hl)) (fun _=> .h) fun v s39 a w hR J G=> ?_)
 obtain ⟨rfl, hRun2⟩ := hR
 refine av J Y Y fun a J=> s0 <| then_n (hK8 _ _ <| wp_ret (hR _ _ _ _ _ J (run_results Tryz.results65 (.t J Y (.nil))) ?_))
 exact ⟨_, s39, Y, ⟨Y, hRun2⟩, G.one .h⟩
end Go.Proofs.YtlapmbkfmbkdoaaGreatDoor
end
section
namespace Go.Proofs.YtlapmbkfmbkdoaaGreatDoor
open Go Go.Fw Go.RowKit
attribute [local irreducible] Go.Oper.wp Go.Code.wp Go.wpList Go.Fw.WL Go.Calls
def _root_.Go.Fw.Fx.rep (F : Fx) (k : Nat) : Nat × Int := F.reps.getD k (0, 0)
theorem HostS.close {w0 w : World} {ks : List Nat} {F : Fx} {asks : List Fw.Ask} {sg : Seg} {A : Option Addr} {c n : Nat} (hS : St w0 ks [[(F.hb, Cel (hcells F (.slice A n c)) 43)], sg] w) (hn : n = asks.length) (hO : OwnS sg A n c (asks.flatMap askc) 92 30) : ∃ s', HostS F asks s' ∧ St w0 ks [s'] w := by
  subst hn
  exact ⟨_, ⟨A, c, sg, rfl, hO⟩, hS.flat (by simp)⟩
theorem own_ask {s : Seg} {A : Option Addr} {c : Nat} {q : Fw.Ask} {b : List Fw.Ask} (h : OwnS s A (b.length + 1) c (b.flatMap askc ++ askc q) 92 30) : OwnS s A (b.length + 1) c ((b ++ [q]).flatMap askc) 92 30 := by
  rw [List.flatMap_append, List.flatMap_singleton]; exact h
theorem reps_length (l : List (Nat × Int)) : (l.flatMap repc).length = l.length * 5 := by
  induction l with
  | nil => rfl
  | cons x l ih =>
    rw [List.flatMap_cons, List.length_append, ih, List.length_cons, show (repc x).length = 5 from rfl, Nat.add_mul]
    omega
theorem reps_at {l : List (Nat × Int)} {k off : Nat} (hk : k < l.length) (ho : off = k * 5) : ∀ j v, (repc (l.getD k (0, 0)))[j]? = some v → (l.flatMap repc)[off + j]? = some v := by
  subst ho
  induction l generalizing k with
  | nil => simp at hk
  | cons x l ih =>
    intro j v hj
    have h5 : (repc x).length = 5 := rfl
    cases k with
    | zero =>
      rw [List.flatMap_cons, Nat.zero_mul, Nat.zero_add, List.getElem?_append_left]
      · exact hj
      · rcases Nat.lt_or_ge j (repc x).length with h | h
        · exact h
        · rw [show ((x :: l).getD 0 (0, 0)) = x from rfl, List.getElem?_eq_none h] at hj; simp at hj
    | succ k =>
      rw [List.flatMap_cons, List.getElem?_append_right (by rw [h5]; omega), h5, show (k + 1) * 5 + j - 5 = k * 5 + j by omega]
      exact ih (by simpa using hk) j v (by simpa using hj)
theorem one_repc (r : Nat × Int) : ∀ v ∈ repc r, v.oneCell' = true := by simp [repc, Value.oneCell']
theorem rep_lt {F : Fx} {k : Nat} (h : k < F.reps.length) : F.rep k = F.reps.getD k (0, 0) := rfl
theorem rep_ge {F : Fx} {k : Nat} (h : F.reps.length ≤ k) : F.rep k = (0, 0) := by
  rw [Fx.rep, List.getD_eq_getElem?_getD, List.getElem?_eq_none h]; rfl
def NextOK (F : Fx) : Prop := ∀ (asks : List Fw.Ask) (q : Fw.Ask) (s : Seg) (w0 : World), HostS F asks s → Own w0 s → RdK w0 (s.map (·.1)) F.qA (F.reps.flatMap repc) → RdK w0 (s.map (·.1)) F.iA (byts F.inner) → asks.length ≤ 20000 →
  Ret Tryz.prog 187 [.pointer (some ⟨F.hb, 0, none⟩), .agg (askc q).toArray] w0 (s.map (·.1)) (fun v s' => v = .tuple #[wv (F.rep asks.length).1, .int .i64 (F.rep asks.length).2] ∧ HostS F (asks ++ [q]) s')
set_option maxHeartbeats 2000000 in
theorem next_0 (F : Fx) (asks : List Fw.Ask) (q : Fw.Ask) (s : Seg) (w0 : World) (hH : HostS F asks s) (ho : Own w0 s) (hQ : RdK w0 (s.map (·.1)) F.qA (F.reps.flatMap repc)) (hl : asks.length ≤ 20000) (hi0 : F.inner.length = 0) : Ret Tryz.prog 187 [.pointer (some ⟨F.hb, 0, none⟩), .agg (askc q).toArray] w0 (s.map (·.1)) (fun v s' => v = .tuple #[wv (F.rep asks.length).1, .int .i64 (F.rep asks.length).2] ∧ HostS F (asks ++ [q]) s') := by
 refine fn_start Tryz.func187 Y Tryz.ntmps187 Y [(0, .pointer (some ⟨F.hb, 0, none⟩)), (1, .agg (askc q).toArray)] ⟨Y, Y, trivial⟩ ?_
 intro Q a hP J hR hN
 have G := St.enter ho
 obtain ⟨A, c, hg, hs, hO⟩ := hH; have G := G.flat (bs' := [[(F.hb, Cel (hcells F (.slice A asks.length c)) 43)], hg]) (by simp [hs])
 refine wp_seq_k fun K1 hK1=> wp_region_lit <| so (wn Y) (O.box Y Y J (J.ev Y) Y G fun b3 a w J G=> ?_)
 refine so (wn Y) (O.alloc Y Y J ze32 Y G fun b4 a w J G=> ?_)
 refine av J Y Y fun a J=> s0 <| then_n (hK1 _ _ <| wp_seq_k fun K2 hK2=> wp_drawG G (G.sel [1, 2] Y Y) [(0, 0), (1, 0), (2, 0), (3, 0), (4, 1), (5, 1), (6, 2), (7, 2), (8, 0), (9, 0), (10, 3)] mix (by kernel_rfl) (hP.then) fun w G hD=> ?_)
 refine dm J Y Y Y fun a J=> dm J Y Y Y fun a J=> dv J Y Y Y Y (fun w=> R.nilCheck (J.ev Y)) fun a J=> dv J Y Y Y Y (fun w=> R.fieldAddr (k := 1) Tryz.underlying43 Y nz41 (J.ev Y) Y) fun a J=> ds J Y Y Y Y hD (fun w hD=> R.load one41 (J.ev Y) hD (.t .h) (Y)) fun a J=> ?_
 refine ds J Y Y Y Y hD (fun w hD=> R.loadW agg92 (J.ev Y) hD .h sz92 (Y)) fun a J=> ?_
 refine dl Y (wn Y) (O.buildSlice (l := [_, _, _, _, _, _, _, _, _, _, _, _, _, _, _, _, _, _, _, _, _, _, _, _, _, _, _, _, _, _]) Y Y J Tryz.underlying41 inf92 Y Y (J.evp Y) (by decide) Y G fun b14 a w J G=> ⟨fun hD=> G.sel [2, 3] Y Y, ?_⟩)
 have hD := G.sel [2, 3] rfl rfl
 refine dl Y (wn Y) (O.append Y Y J Tryz.underlying41 inf92 Y Y (by decide) (J.ev Y) (J.ev Y) G hO (fun _=> (.t (.t (.t (.t .h))))) (Rd.own0 G .h) (Y) (by simp [Value.oneCell']) (by unfold maxLen; omega) (by omega) fun A15 c15 s15 a w hO15 J G=> ⟨fun hD=> G.sel [2, 3] Y Y, ?_⟩)
 have hD := G.sel [2, 3] rfl rfl
 refine dv J Y Y Y Y (fun w=> R.nilCheck (J.ev Y)) fun a J=> dv J Y Y Y Y (fun w=> R.fieldAddr (k := 1) Tryz.underlying43 Y nz41 (J.ev Y) Y) fun a J=> ?_
 refine dw Y (wn Y) (O.store sz41 (J.ev Y) (J.ev Y) Y Y G (.t (.t (.t .h))) (show List.set _ _ _ = hcells F (.slice A15 (asks.length + 1) c15) from Y) (by first | decide | omega | (show _ < 59; decide) | (show _ < 3; decide) | simp) fun w G=> ?_)
 refine d0 <| then_n (hK2 _ _ <| wp_seq_k fun K3 hK3=> wp_seq_k fun K4 hK4=> wp_region_lit <| mv J Y Y fun a J=> sw J Y Y Y (R.nilCheck (J.ev Y)) fun a J=> sw J Y Y Y (R.fieldAddr (k := 2) Tryz.underlying43 Y nz22 (J.ev Y) Y) fun a J=> sw J Y Y Y (R.load one22 (J.ev Y) G (.t (.t (.t .h))) (Y)) fun a J=> sw J Y Y Y (R.len Tryz.underlying22 (J.ev Y)) fun a J=> sw J Y Y Y (R.gtr (J.ev Y) (J.ev Y)) fun a J=> s0 <| then_n (hK4 _ _ <| cD J Y (fun c1=> ?_) (fun c1=> ?_)))
 ·exact absurd c1 (by omega)
 refine wp_skip <| then_n (hK3 _ _ <| wp_seq_k fun K5 hK5=> wp_seq_k fun K6 hK6=> wp_drawS G [(0, 0), (1, 0), (2, 0), (3, 1), (4, 0), (5, 0), (6, 0), (7, 0), (8, 1), (9, 0), (10, 0)] mix (by kernel_rfl) (hP.then.then) fun w G=> ?_)
 have hD := G
 refine dm J Y Y Y fun a J=> dv J Y Y Y Y (fun w=> R.nilCheck (J.ev Y)) fun a J=> dv J Y Y Y Y (fun w=> R.fieldAddr (k := 1) Tryz.underlying43 Y nz41 (J.ev Y) Y) fun a J=> ds J Y Y Y Y hD (fun w hD=> R.load one41 (J.ev Y) hD (.t (.t (.t .h))) (Y)) fun a J=> ?_
 refine dv J Y Y Y Y (fun w=> R.len Tryz.underlying41 (J.ev Y)) fun a J=> dm J Y Y Y fun a J=> dv J Y Y Y Y (fun w=> R.nilCheck (J.ev Y)) fun a J=> dv J Y Y Y Y (fun w=> R.fieldAddr (k := 0) Tryz.underlying43 Y nz36 (J.ev Y) Y) fun a J=> ds J Y Y Y Y hD (fun w hD=> R.load one36 (J.ev Y) hD (.t (.t (.t .h))) (Y)) fun a J=> ?_
 refine dv J Y Y Y Y (fun w=> R.len Tryz.underlying36 (J.ev Y)) fun a J=> dv J Y Y Y Y (fun w=> R.leq (J.ev Y) (J.ev Y)) fun a J=> d0 <| then_n (hK6 _ _ <| cD J Y (fun c2=> ?_) (fun c2=> ?_))
 ·refine wp_seq_k fun K7 hK7=> wp_drawS G [(0, 0), (1, 0), (2, 0), (3, 1), (4, 0), (5, 0), (6, 0), (7, 1), (8, 0), (9, 0), (10, 0), (11, 1), (12, 2), (13, 3)] mix (by kernel_rfl) (hP.then.then) fun w G=> ?_
  have hD := G
  refine dm J Y Y Y fun a J=> dv J Y Y Y Y (fun w=> R.nilCheck (J.ev Y)) fun a J=> dv J Y Y Y Y (fun w=> R.fieldAddr (k := 0) Tryz.underlying43 Y nz36 (J.ev Y) Y) fun a J=> ds J Y Y Y Y hD (fun w hD=> R.load one36 (J.ev Y) hD (.t (.t (.t .h))) (Y)) fun a J=> ?_
  refine dm J Y Y Y fun a J=> dv J Y Y Y Y (fun w=> R.nilCheck (J.ev Y)) fun a J=> dv J Y Y Y Y (fun w=> R.fieldAddr (k := 1) Tryz.underlying43 Y nz41 (J.ev Y) Y) fun a J=> ds J Y Y Y Y hD (fun w hD=> R.load one41 (J.ev Y) hD (.t (.t (.t .h))) (Y)) fun a J=> ?_
  refine dv J Y Y Y Y (fun w=> R.len Tryz.underlying41 (J.ev Y)) fun a J=> dv J Y Y Y Y (fun w=> R.subI (J.ev Y) (J.ev Y) (by omega)) fun a J=> dv J Y Y Y Y (fun w=> R.indexO Tryz.underlying36 sz97 (J.ev Y) (Rd.ne (hQ.old G) (by rw [reps_length]; omega)) (J.ev Y) (by omega) (by omega)) fun a J=> ds J Y Y Y Y hD (fun w hD=> R.loadAO (cs := repc (F.reps.getD asks.length (0, 0))) agg97 (J.ev Y) (hQ.old hD) sz97 Y (Nat.succ_pos _) (reps_at (k := asks.length) (by omega) (by omega))) fun a J=> ?_
  refine dl Y (wn Y) (O.alloc Y Y J ze97 Y G fun b7 a w J G=> ⟨fun hD=> G.tail, ?_⟩)
  have hD := G.tail
  refine dw Y (wn Y) (O.storeW sz97 (J.ev Y) (J.ev Y) (Y) Y (one_repc _) G .h (Y) fun w G=> ?_)
  refine d0 <| then_n (hK7 _ _ <| wp_seq_k fun K8 hK8=> wp_drawG G (G.sel [0] Y Y) [(0, 0), (1, 1), (2, 0), (3, 1), (4, 2), (5, 0)] mix (by kernel_rfl) (hP.then.then) fun w G hD=> ?_)
  refine dv J Y Y Y Y (fun w=> R.fieldAddr (k := 0) Tryz.underlying97 Y nz32 (J.ev Y) Y) fun a J=> ds J Y Y Y Y hD (fun w hD=> R.loadA (cs := [_, _, _, _]) agg32 (J.ev Y) hD .h sz32 Y (getAt Y)) fun a J=> ?_
  refine dv J Y Y Y Y (fun w=> R.fieldAddr (k := 4) Tryz.underlying97 Y nz23 (J.ev Y) Y) fun a J=> ds J Y Y Y Y hD (fun w hD=> R.load one23 (J.ev Y) hD .h (Y)) fun a J=> ?_
  refine dl Y (wn Y) (O.storeW sz32 (J.ev Y) (J.ev Y) (Y) Y (by simp [Value.oneCell']) G (.t (.t .h)) (Y) fun w G=> ⟨fun hD=> G.sel [0] Y Y, ?_⟩)
  have hD := G.sel [0] rfl rfl
  refine da J Y Y Y fun a J=> d0 <| then_n (hK8 _ _ <| wp_ret (then_r (hR _ _ _ _ _ J (run_results Tryz.results187 (.cw J Y agg32 G (.t (.t .h)) sz32 (Y) (.t J Y (.nil)))) ?_)))
  obtain ⟨s', h1, h2⟩ := HostS.close (F := F) (asks := asks ++ [q]) (G.sel [4, 5] rfl rfl) (by simp) (own_ask hO15)
  exact ⟨_, s', Y, ⟨by rw [rep_lt (k := asks.length) (by omega)]; rfl, h1⟩, h2⟩
 refine wp_skip <| then_n (hK5 _ _ <| wp_seq_k fun K9 hK9=> wp_region_lit <| sw J Y Y Y (R.buildArr (l := [_, _, _, _]) Tryz.underlying32 ze32 sz30 (J.evp Y) Y) fun a J=> so (wn Y) (O.storeW sz32 (J.ev Y) (J.ev Y) (Y) Y (by simp [Value.oneCell']) G (.t .h) (Y) fun w G=> ?_))
 refine av J Y Y fun a J=> s0 <| then_n (hK9 _ _ <| wp_ret (hR _ _ _ _ _ J (run_results Tryz.results187 (.cw J Y agg32 G (.t .h) sz32 (Y) (.t J Y (.nil)))) ?_))
 obtain ⟨s', h1, h2⟩ := HostS.close (F := F) (asks := asks ++ [q]) (G.sel [3, 4] rfl rfl) (by simp) (own_ask hO15)
 exact ⟨_, s', Y, ⟨by rw [rep_ge (k := asks.length) (by omega)]; rfl, h1⟩, h2⟩
end Go.Proofs.YtlapmbkfmbkdoaaGreatDoor
end
section
namespace Go.Proofs.YtlapmbkfmbkdoaaGreatDoor
open Go Go.Fw Go.RowKit
attribute [local irreducible] Go.Oper.wp Go.Code.wp Go.wpList Go.Fw.WL Go.Calls
theorem meth_load (hb : Nat) : ∀ w, (method (Tryz.prog.types.size + Made.depth) 40 (.pointer (some ⟨hb, 0, none⟩)) "Load").run Tryz.prog w = .ok (184, .pointer (some ⟨hb, 0, none⟩)) w := fun w => by kernel_rfl
theorem meth_save (hb : Nat) : ∀ w, (method (Tryz.prog.types.size + Made.depth) 40 (.pointer (some ⟨hb, 0, none⟩)) "Save").run Tryz.prog w = .ok (185, .pointer (some ⟨hb, 0, none⟩)) w := fun w => by kernel_rfl
theorem meth_have (hb : Nat) : ∀ w, (method (Tryz.prog.types.size + Made.depth) 40 (.pointer (some ⟨hb, 0, none⟩)) "Have").run Tryz.prog w = .ok (183, .pointer (some ⟨hb, 0, none⟩)) w := fun w => by kernel_rfl
theorem meth_send (hb : Nat) : ∀ w, (method (Tryz.prog.types.size + Made.depth) 40 (.pointer (some ⟨hb, 0, none⟩)) "Send").run Tryz.prog w = .ok (186, .pointer (some ⟨hb, 0, none⟩)) w := fun w => by kernel_rfl
theorem R.nilCheckI {P : Program} {w : World} {ρ : Operand → Value} {dst : Option Tmp} {ty : TypeId} {pos : String} {af : Array Edge} {g : Option (Nat × Bool)} {x : Operand} {t : TypeId} {u : Value} (hx : ρ x = .iface t u) : (execOp ρ ⟨dst, .nilCheck x, ty, pos, af, g⟩).run P w = .ok (.value (.iface t u)) w := by
  simp only [execOp, hx, Sem.run_pure]
def DidH (F : Fx) (V : Vr) (stk : List Nat) (asks : List Fw.Ask) (v : Value) (s' : Seg) : Prop := v = .int .i64 0 ∧ ∃ s1 s2, s' = s1 ++ s2 ∧ RunS F V stk s1 ∧ HostS F asks s2
def ErrH (F : Fx) (asks : List Fw.Ask) (e : Int) (v : Value) (s' : Seg) : Prop := v = .int .i64 e ∧ ∃ s1 s2, s' = s1 ++ s2 ∧ HostS F asks s2
theorem load_calls (F : Fx) (asks : List Fw.Ask) (s : Seg) (n : Nat) (w0 : World) (hNX : NextOK F) (hH : HostS F asks s) (ho : Own w0 s) (hQ : RdK w0 (s.map (·.1)) F.qA (F.reps.flatMap repc)) (hI : RdK w0 (s.map (·.1)) F.iA (byts F.inner)) (hl : asks.length ≤ 20000) : Ret Tryz.prog 184 [.pointer (some ⟨F.hb, 0, none⟩), wv n] w0 (s.map (·.1)) (fun v s' => v = .tuple #[wv (F.rep asks.length).1, .int .i64 (F.rep asks.length).2] ∧ HostS F (asks ++ [⟨1, n, 0, 0, 0⟩]) s') := by
 refine fn_start Tryz.func184 Y Tryz.ntmps184 Y [(0, .pointer (some ⟨F.hb, 0, none⟩)), (1, wv n)] ⟨Y, Y, trivial⟩ ?_
 intro Q a hP J hR hN
 have G := St.enter ho
 refine wp_seq_k fun K1 hK1=> wp_region_lit <| so (wn Y) (O.box Y Y J (J.ev Y) Y G fun b3 a w J G=> ?_)
 refine so (wn Y) (O.alloc Y Y J ze32 Y G fun b4 a w J G=> ?_)
 refine av J Y Y fun a J=> s0 <| then_n (hK1 _ _ <| wp_seq_k fun K2 hK2=> wp_region_lit <| mv J Y Y fun a J=> sw J Y Y Y (R.loadW agg32 (J.ev Y) G (.t .h) sz32 (Y)) fun a J=> sw J Y Y Y (R.buildStr (l := askc ⟨1, n, 0, 0, 0⟩) Tryz.underlying92 ze92 pl92 (J.evp Y) (by kernel_rfl)) fun a J=> so (wn Y) (O.callK Y Y J ent187 (J.evs Y) G (hNX asks ⟨1, n, 0, 0, 0⟩ _ _ hH (G.own1 (.t (.t .h))) (hQ.down G (.t (.t .h))) (hI.down G (.t (.t .h))) hl) (fun _=> (.t (.t .h))) fun v s9 a w hR J G=> ?_))
 obtain ⟨rfl, hH2⟩ := hR
 refine xv J Y Y Y fun a J=> xv J Y Y Y fun a J=> so (wn Y) (O.storeW sz32 (J.ev Y) (J.ev Y) (Y) Y (by simp [Value.oneCell']) G .h (Y) fun w G=> ?_)
 refine av J Y Y fun a J=> s0 <| then_n (hK2 _ _ <| wp_ret (hR _ _ _ _ _ J (run_results Tryz.results184 (.cw J Y agg32 G .h sz32 (Y) (.t J Y (.nil)))) ?_))
 exact ⟨_, s9, Y, ⟨Y, hH2⟩, G.one (.t (.t .h))⟩
theorem save_calls (F : Fx) (asks : List Fw.Ask) (s : Seg) (n m : Nat) (w0 : World) (hNX : NextOK F) (hH : HostS F asks s) (ho : Own w0 s) (hQ : RdK w0 (s.map (·.1)) F.qA (F.reps.flatMap repc)) (hI : RdK w0 (s.map (·.1)) F.iA (byts F.inner)) (hl : asks.length ≤ 20000) : Ret Tryz.prog 185 [.pointer (some ⟨F.hb, 0, none⟩), wv n, wv m] w0 (s.map (·.1)) (fun v s' => v = .int .i64 (F.rep asks.length).2 ∧ HostS F (asks ++ [⟨2, n, m, 0, 0⟩]) s') := by
 refine fn_start Tryz.func185 Y Tryz.ntmps185 Y [(0, .pointer (some ⟨F.hb, 0, none⟩)), (1, wv n), (2, wv m)] ⟨Y, Y, Y, trivial⟩ ?_
 intro Q a hP J hR hN
 have G := St.enter ho
 refine wp_seq_k fun K1 hK1=> wp_region_lit <| so (wn Y) (O.box Y Y J (J.ev Y) Y G fun b4 a w J G=> ?_)
 refine so (wn Y) (O.box Y Y J (J.ev Y) Y G fun b5 a w J G=> ?_)
 refine av J Y Y fun a J=> s0 <| then_n (hK1 _ _ <| wp_seq_k fun K2 hK2=> wp_region_lit <| mv J Y Y fun a J=> sw J Y Y Y (R.loadW agg32 (J.ev Y) G (.t .h) sz32 (Y)) fun a J=> sw J Y Y Y (R.loadW agg32 (J.ev Y) G .h sz32 (Y)) fun a J=> sw J Y Y Y (R.buildStr (l := askc ⟨2, n, m, 0, 0⟩) Tryz.underlying92 ze92 pl92 (J.evp Y) (by kernel_rfl)) fun a J=> so (wn Y) (O.callK Y Y J ent187 (J.evs Y) G (hNX asks ⟨2, n, m, 0, 0⟩ _ _ hH (G.own1 (.t (.t .h))) (hQ.down G (.t (.t .h))) (hI.down G (.t (.t .h))) hl) (fun _=> (.t (.t .h))) fun v s14 a w hR J G=> ?_))
 obtain ⟨rfl, hH2⟩ := hR
 refine mv J Y Y fun a J=> xv J Y Y Y fun a J=> xv J Y Y Y fun a J=> so (wn Y) (O.alloc Y Y J ze32 Y G fun b7 a w J G=> ?_)
 refine so (wn Y) (O.storeW sz32 (J.ev Y) (J.ev Y) (Y) Y (by simp [Value.oneCell']) G .h (Y) fun w G=> ?_)
 refine av J Y Y fun a J=> s0 <| then_n (hK2 _ _ <| wp_seq_k fun K3 hK3=> wp_region_lit <| mv J Y Y fun a J=> av J Y Y fun a J=> s0 <| then_n (hK3 _ _ <| wp_ret (hR _ _ _ _ _ J (run_results Tryz.results185 (.t J Y (.nil))) ?_)))
 exact ⟨_, s14, Y, ⟨Y, hH2⟩, G.one (.t (.t (.t .h)))⟩
theorem have_calls (F : Fx) (asks : List Fw.Ask) (s : Seg) (t z : Nat) (w0 : World) (hNX : NextOK F) (hH : HostS F asks s) (ho : Own w0 s) (hQ : RdK w0 (s.map (·.1)) F.qA (F.reps.flatMap repc)) (hI : RdK w0 (s.map (·.1)) F.iA (byts F.inner)) (hl : asks.length ≤ 20000) : Ret Tryz.prog 183 [.pointer (some ⟨F.hb, 0, none⟩), .int .i64 ((t : Nat) : Int), .agg (adc (adF z)).toArray] w0 (s.map (·.1)) (fun v s' => v = .tuple #[wv (F.rep asks.length).1, .int .i64 (F.rep asks.length).2] ∧ HostS F (asks ++ [⟨3, 0, 0, t, z⟩]) s') := by
 refine fn_start Tryz.func183 Y Tryz.ntmps183 Y [(0, .pointer (some ⟨F.hb, 0, none⟩)), (1, .int .i64 ((t : Nat) : Int)), (2, .agg (adc (adF z)).toArray)] ⟨Y, Y, Y, trivial⟩ ?_
 intro Q a hP J hR hN
 have G := St.enter ho
 refine wp_seq_k fun K1 hK1=> wp_region_lit <| so (wn Y) (O.box Y Y J (J.ev Y) Y G fun b5 a w J G=> ?_)
 refine so (wn Y) (O.alloc Y Y J ze32 Y G fun b6 a w J G=> ?_)
 refine av J Y Y fun a J=> s0 <| then_n (hK1 _ _ <| wp_seq_k fun K2 hK2=> wp_region_lit <| mv J Y Y fun a J=> mv J Y Y fun a J=> sw J Y Y Y (R.loadW agg29 (J.ev Y) G (.t .h) sz29 (Y)) fun a J=> sw J Y Y Y (R.buildStr (l := askc ⟨3, 0, 0, t, z⟩) Tryz.underlying92 ze92 pl92 (J.evp Y) (by kernel_rfl)) fun a J=> so (wn Y) (O.callK Y Y J ent187 (J.evs Y) G (hNX asks ⟨3, 0, 0, t, z⟩ _ _ hH (G.own1 (.t (.t .h))) (hQ.down G (.t (.t .h))) (hI.down G (.t (.t .h))) hl) (fun _=> (.t (.t .h))) fun v s12 a w hR J G=> ?_))
 obtain ⟨rfl, hH2⟩ := hR
 refine xv J Y Y Y fun a J=> xv J Y Y Y fun a J=> so (wn Y) (O.storeW sz32 (J.ev Y) (J.ev Y) (Y) Y (by simp [Value.oneCell']) G .h (Y) fun w G=> ?_)
 refine av J Y Y fun a J=> s0 <| then_n (hK2 _ _ <| wp_ret (hR _ _ _ _ _ J (run_results Tryz.results183 (.cw J Y agg32 G .h sz32 (Y) (.t J Y (.nil)))) ?_))
 exact ⟨_, s12, Y, ⟨Y, hH2⟩, G.one (.t (.t .h))⟩
theorem send_calls (F : Fx) (asks : List Fw.Ask) (s : Seg) (t z n : Nat) (w0 : World) (hNX : NextOK F) (hH : HostS F asks s) (ho : Own w0 s) (hQ : RdK w0 (s.map (·.1)) F.qA (F.reps.flatMap repc)) (hI : RdK w0 (s.map (·.1)) F.iA (byts F.inner)) (hl : asks.length ≤ 20000) : Ret Tryz.prog 186 [.pointer (some ⟨F.hb, 0, none⟩), .int .i64 ((t : Nat) : Int), .agg (adc (adF z)).toArray, wv n] w0 (s.map (·.1)) (fun v s' => v = .int .i64 (F.rep asks.length).2 ∧ HostS F (asks ++ [⟨4, n, 0, t, z⟩]) s') := by
 refine fn_start Tryz.func186 Y Tryz.ntmps186 Y [(0, .pointer (some ⟨F.hb, 0, none⟩)), (1, .int .i64 ((t : Nat) : Int)), (2, .agg (adc (adF z)).toArray), (3, wv n)] ⟨Y, Y, Y, Y, trivial⟩ ?_
 intro Q a hP J hR hN
 have G := St.enter ho
 refine wp_seq_k fun K1 hK1=> wp_region_lit <| so (wn Y) (O.box Y Y J (J.ev Y) Y G fun b6 a w J G=> ?_)
 refine so (wn Y) (O.box Y Y J (J.ev Y) Y G fun b7 a w J G=> ?_)
 refine av J Y Y fun a J=> s0 <| then_n (hK1 _ _ <| wp_seq_k fun K2 hK2=> wp_region_lit <| mv J Y Y fun a J=> mv J Y Y fun a J=> sw J Y Y Y (R.loadW agg29 (J.ev Y) G (.t .h) sz29 (Y)) fun a J=> sw J Y Y Y (R.loadW agg32 (J.ev Y) G .h sz32 (Y)) fun a J=> sw J Y Y Y (R.buildStr (l := askc ⟨4, n, 0, t, z⟩) Tryz.underlying92 ze92 pl92 (J.evp Y) (by kernel_rfl)) fun a J=> so (wn Y) (O.callK Y Y J ent187 (J.evs Y) G (hNX asks ⟨4, n, 0, t, z⟩ _ _ hH (G.own1 (.t (.t .h))) (hQ.down G (.t (.t .h))) (hI.down G (.t (.t .h))) hl) (fun _=> (.t (.t .h))) fun v s17 a w hR J G=> ?_))
 obtain ⟨rfl, hH2⟩ := hR
 refine mv J Y Y fun a J=> xv J Y Y Y fun a J=> xv J Y Y Y fun a J=> so (wn Y) (O.alloc Y Y J ze32 Y G fun b9 a w J G=> ?_)
 refine so (wn Y) (O.storeW sz32 (J.ev Y) (J.ev Y) (Y) Y (by simp [Value.oneCell']) G .h (Y) fun w G=> ?_)
 refine av J Y Y fun a J=> s0 <| then_n (hK2 _ _ <| wp_seq_k fun K3 hK3=> wp_region_lit <| mv J Y Y fun a J=> av J Y Y fun a J=> s0 <| then_n (hK3 _ _ <| wp_ret (hR _ _ _ _ _ J (run_results Tryz.results186 (.t J Y (.nil))) ?_)))
 exact ⟨_, s17, Y, ⟨Y, hH2⟩, G.one (.t (.t (.t .h)))⟩
end Go.Proofs.YtlapmbkfmbkdoaaGreatDoor
end
section
namespace Go.Proofs.YtlapmbkfmbkdoaaGreatDoor
open Go Go.Fw Go.RowKit
attribute [local irreducible] Go.Oper.wp Go.Code.wp Go.wpList Go.Fw.WL Go.Calls
set_option maxHeartbeats 2000000 in
theorem load_ok (F : Fx) (V : Vr) (stk : List Nat) (asks : List Fw.Ask) (s1 s2 : Seg) (vb : Nat) (u : Nat → Nat) (w0 : World) (hNX : NextOK F) (hRun : RunS F V stk s1) (hH : HostS F asks s2) (ho : Own w0 (s1 ++ s2)) (hv : RdK w0 ((s1 ++ s2).map (·.1)) (some ⟨vb, 0, none⟩) (vc u)) (hvM : ∀ i, u i < 115792089237316195423570985008687907853269984665640564039457584007913129639936) (hQ : RdK w0 ((s1 ++ s2).map (·.1)) F.qA (F.reps.flatMap repc)) (hI : RdK w0 ((s1 ++ s2).map (·.1)) F.iA (byts F.inner)) (hl : stk.length ≤ 64) (hla : asks.length ≤ 20000) (he : (F.rep asks.length).2 = 0) : Ret Tryz.prog 87 [.pointer (some ⟨F.rb, 0, none⟩), .slice (some ⟨vb, 0, none⟩) 1 3] w0 ((s1 ++ s2).map (·.1)) (fun v s' => DidH F V (stk ++ [(F.rep asks.length).1]) (asks ++ [⟨1, u 0, 0, 0, 0⟩]) v s') := by
 refine fn_start Tryz.func87 Y Tryz.ntmps87 Y [(0, .pointer (some ⟨F.rb, 0, none⟩)), (1, .slice (some ⟨vb, 0, none⟩) 1 3)] ⟨Y, Y, trivial⟩ ?_
 intro Q a hP J hR hN
 have G := St.enter ho
 obtain ⟨A, c, sg, hs, hO⟩ := hRun; have G := G.flat (bs' := [[(F.rb, Cel (rcells F (.slice A stk.length c) V) 103)], sg, s2]) (by simp [hs])
 refine wp_seq_k fun K1 hK1=> wp_region_lit <| av J Y Y fun a J=> s0 <| then_n (hK1 _ _ <| wp_seq_k fun K2 hK2=> wp_draw2G G (G.sel [0] Y Y) [(0, 0), (1, 0), (2, 0), (3, 1), (4, 0), (5, 0), (6, 1), (7, 0), (8, 0)] [[(9, 2), (10, 0), (11, 0), (12, 0), (13, 2), (14, 2), (15, 0)], [(13, 2), (9, 2), (10, 0), (11, 0), (12, 0), (14, 2), (15, 0)]] mix (by kernel_rfl) (hP.then) fun w G hD=> ?_)
 refine dm J Y Y Y fun a J=> dv J Y Y Y Y (fun w=> R.nilCheck (J.ev Y)) fun a J=> dv J Y Y Y Y (fun w=> R.fieldAddr (k := 49) Tryz.underlying103 Y nz100 (J.ev Y) Y) fun a J=> ds J Y Y Y Y hD (fun w hD=> R.load one100 (J.ev Y) hD .h (Y)) fun a J=> ?_
 refine dm J Y Y Y fun a J=> dv J Y Y Y Y (fun w=> R.indexO Tryz.underlying33 sz32 (J.ev Y) (by simp) (J.ev Y) (by omega) (by omega)) fun a J=> ds J Y Y Y Y hD (fun w hD=> R.loadAO (cs := wc (u 0)) agg32 (J.ev Y) (hv.old hD) sz32 Y (Nat.succ_pos _) (v0_at Y)) fun a J=> ?_
 refine dv J Y Y Y Y (fun w=> R.nilCheckI (J.ev Y)) fun a J=> dm J Y Y Y fun a J=> d0 <| alts2 ?_ ?_
 ·refine dl Y (wn Y) (O.callM Y Y J (J.ev Y) (meth_load F.hb) ent184 (J.evs Y) G (load_calls F asks _ (u 0) _ hNX hH (G.own1 (.t (.t .h))) (hQ.down G (.t (.t .h))) (hI.down G (.t (.t .h))) hla) (fun _=> (.t (.t .h))) fun v s17 a w hR J G=> ⟨fun hD=> G.sel [0] Y Y, ?_⟩)
  have hD := G.sel [0] rfl rfl
  obtain ⟨rfl, hH2⟩ := hR
  refine dm J Y Y Y fun a J=> dx J Y Y Y Y fun a J=> dx J Y Y Y Y fun a J=> dl Y (wn Y) (O.alloc Y Y J ze32 Y G fun b5 a w J G=> ⟨fun hD=> G.sel [1] Y Y, ?_⟩)
  have hD := G.sel [1] rfl rfl
  refine dl Y (wn Y) (O.storeW sz32 (J.ev Y) (J.ev Y) (Y) Y (by simp [Value.oneCell']) G .h (Y) fun w G=> ⟨fun hD=> G.sel [1] Y Y, ?_⟩)
  have hD := G.sel [1] rfl rfl
  refine da J Y Y Y fun a J=> d0 <| then_n (hK2 _ _ <| wp_seq_k fun K3 hK3=> wp_seq_k fun K4 hK4=> wp_region_lit <| mv J Y Y fun a J=> sw J Y Y Y (R.as (u := .bool false) (R.neq (p := (F.rep asks.length).2) (q := 0) (J.ev Y) (J.ev Y)) (congrArg Value.bool (decide_eq_false (fun h=> h he)))) fun a J=> s0 <| then_n (hK4 _ _ <| cF J Y <| wp_skip <| then_n (hK3 _ _ <| wp_seq_k fun K5 hK5=> wp_region_lit <| mv J Y Y fun a J=> sw J Y Y Y (R.loadW agg32 (J.ev Y) G .h sz32 (Y)) fun a J=> ?_)))
  have G := (G.sel [1, 2, 3] rfl rfl).flat (bs' := [(F.rb, Cel (rcells F (.slice A stk.length c) V) 103) :: sg, s17]) (by simp [selS])
  refine so (wn Y) (O.callK Y Y J ent117 (J.evs Y) G (on_calls F V stk _ ((F.rep asks.length).1) _ ⟨A, c, sg, Y, hO⟩ (G.own1 .h) (hl)) (fun _=> .h) fun v s25 a w hR J G=> ?_)
  obtain ⟨rfl, hRun2⟩ := hR
  refine av J Y Y fun a J=> s0 <| then_n (hK5 _ _ <| wp_ret (hR _ _ _ _ _ J (run_results Tryz.results87 (.t J Y (.nil))) ?_))
  exact ⟨_, s25 ++ s17, Y, ⟨Y, s25, s17, Y, hRun2, hH2⟩, (G.sel [0, 1] Y Y).flat (by simp [selS])⟩
 refine dl Y (wn Y) (O.alloc Y Y J ze32 Y G fun b5 a w J G=> ⟨fun hD=> G.sel [1] Y Y, ?_⟩)
 have hD := G.sel [1] rfl rfl
 refine dl Y (wn Y) (O.callM Y Y J (J.ev Y) (meth_load F.hb) ent184 (J.evs Y) G (load_calls F asks _ (u 0) _ hNX hH (G.own1 (.t (.t (.t .h)))) (hQ.down G (.t (.t (.t .h)))) (hI.down G (.t (.t (.t .h)))) hla) (fun _=> (.t (.t (.t .h)))) fun v s17 a w hR J G=> ⟨fun hD=> G.sel [1] Y Y, ?_⟩)
 have hD := G.sel [1] rfl rfl
 obtain ⟨rfl, hH2⟩ := hR
 refine dm J Y Y Y fun a J=> dx J Y Y Y Y fun a J=> dx J Y Y Y Y fun a J=> dl Y (wn Y) (O.storeW sz32 (J.ev Y) (J.ev Y) (Y) Y (by simp [Value.oneCell']) G .h (Y) fun w G=> ⟨fun hD=> G.sel [1] Y Y, ?_⟩)
 have hD := G.sel [1] rfl rfl
 refine da J Y Y Y fun a J=> d0 <| then_n (hK2 _ _ <| wp_seq_k fun K6 hK6=> wp_seq_k fun K7 hK7=> wp_region_lit <| mv J Y Y fun a J=> sw J Y Y Y (R.as (u := .bool false) (R.neq (p := (F.rep asks.length).2) (q := 0) (J.ev Y) (J.ev Y)) (congrArg Value.bool (decide_eq_false (fun h=> h he)))) fun a J=> s0 <| then_n (hK7 _ _ <| cF J Y <| wp_skip <| then_n (hK6 _ _ <| wp_seq_k fun K8 hK8=> wp_region_lit <| mv J Y Y fun a J=> sw J Y Y Y (R.loadW agg32 (J.ev Y) G .h sz32 (Y)) fun a J=> ?_)))
 have G := (G.sel [1, 2, 3] rfl rfl).flat (bs' := [(F.rb, Cel (rcells F (.slice A stk.length c) V) 103) :: sg, s17]) (by simp [selS])
 refine so (wn Y) (O.callK Y Y J ent117 (J.evs Y) G (on_calls F V stk _ ((F.rep asks.length).1) _ ⟨A, c, sg, Y, hO⟩ (G.own1 .h) (hl)) (fun _=> .h) fun v s25 a w hR J G=> ?_)
 obtain ⟨rfl, hRun2⟩ := hR
 refine av J Y Y fun a J=> s0 <| then_n (hK8 _ _ <| wp_ret (hR _ _ _ _ _ J (run_results Tryz.results87 (.t J Y (.nil))) ?_))
 exact ⟨_, s25 ++ s17, Y, ⟨Y, s25, s17, Y, hRun2, hH2⟩, (G.sel [0, 1] Y Y).flat (by simp [selS])⟩
set_option maxHeartbeats 2000000 in
theorem load_err (F : Fx) (V : Vr) (stk : List Nat) (asks : List Fw.Ask) (s1 s2 : Seg) (vb : Nat) (u : Nat → Nat) (w0 : World) (hNX : NextOK F) (hRun : RunS F V stk s1) (hH : HostS F asks s2) (ho : Own w0 (s1 ++ s2)) (hv : RdK w0 ((s1 ++ s2).map (·.1)) (some ⟨vb, 0, none⟩) (vc u)) (hvM : ∀ i, u i < 115792089237316195423570985008687907853269984665640564039457584007913129639936) (hQ : RdK w0 ((s1 ++ s2).map (·.1)) F.qA (F.reps.flatMap repc)) (hI : RdK w0 ((s1 ++ s2).map (·.1)) F.iA (byts F.inner)) (hl : stk.length ≤ 64) (hla : asks.length ≤ 20000) (he : ¬ (F.rep asks.length).2 = 0) : Ret Tryz.prog 87 [.pointer (some ⟨F.rb, 0, none⟩), .slice (some ⟨vb, 0, none⟩) 1 3] w0 ((s1 ++ s2).map (·.1)) (fun v s' => ErrH F (asks ++ [⟨1, u 0, 0, 0, 0⟩]) (F.rep asks.length).2 v s') := by
 refine fn_start Tryz.func87 Y Tryz.ntmps87 Y [(0, .pointer (some ⟨F.rb, 0, none⟩)), (1, .slice (some ⟨vb, 0, none⟩) 1 3)] ⟨Y, Y, trivial⟩ ?_
 intro Q a hP J hR hN
 have G := St.enter ho
 obtain ⟨A, c, sg, hs, hO⟩ := hRun; have G := G.flat (bs' := [[(F.rb, Cel (rcells F (.slice A stk.length c) V) 103)], sg, s2]) (by simp [hs])
 refine wp_seq_k fun K1 hK1=> wp_region_lit <| av J Y Y fun a J=> s0 <| then_n (hK1 _ _ <| wp_seq_k fun K2 hK2=> wp_draw2G G (G.sel [0] Y Y) [(0, 0), (1, 0), (2, 0), (3, 1), (4, 0), (5, 0), (6, 1), (7, 0), (8, 0)] [[(9, 2), (10, 0), (11, 0), (12, 0), (13, 2), (14, 2), (15, 0)], [(13, 2), (9, 2), (10, 0), (11, 0), (12, 0), (14, 2), (15, 0)]] mix (by kernel_rfl) (hP.then) fun w G hD=> ?_)
 refine dm J Y Y Y fun a J=> dv J Y Y Y Y (fun w=> R.nilCheck (J.ev Y)) fun a J=> dv J Y Y Y Y (fun w=> R.fieldAddr (k := 49) Tryz.underlying103 Y nz100 (J.ev Y) Y) fun a J=> ds J Y Y Y Y hD (fun w hD=> R.load one100 (J.ev Y) hD .h (Y)) fun a J=> ?_
 refine dm J Y Y Y fun a J=> dv J Y Y Y Y (fun w=> R.indexO Tryz.underlying33 sz32 (J.ev Y) (by simp) (J.ev Y) (by omega) (by omega)) fun a J=> ds J Y Y Y Y hD (fun w hD=> R.loadAO (cs := wc (u 0)) agg32 (J.ev Y) (hv.old hD) sz32 Y (Nat.succ_pos _) (v0_at Y)) fun a J=> ?_
 refine dv J Y Y Y Y (fun w=> R.nilCheckI (J.ev Y)) fun a J=> dm J Y Y Y fun a J=> d0 <| alts2 ?_ ?_
 ·refine dl Y (wn Y) (O.callM Y Y J (J.ev Y) (meth_load F.hb) ent184 (J.evs Y) G (load_calls F asks _ (u 0) _ hNX hH (G.own1 (.t (.t .h))) (hQ.down G (.t (.t .h))) (hI.down G (.t (.t .h))) hla) (fun _=> (.t (.t .h))) fun v s17 a w hR J G=> ⟨fun hD=> G.sel [0] Y Y, ?_⟩)
  have hD := G.sel [0] rfl rfl
  obtain ⟨rfl, hH2⟩ := hR
  refine dm J Y Y Y fun a J=> dx J Y Y Y Y fun a J=> dx J Y Y Y Y fun a J=> dl Y (wn Y) (O.alloc Y Y J ze32 Y G fun b5 a w J G=> ⟨fun hD=> G.sel [1] Y Y, ?_⟩)
  have hD := G.sel [1] rfl rfl
  refine dl Y (wn Y) (O.storeW sz32 (J.ev Y) (J.ev Y) (Y) Y (by simp [Value.oneCell']) G .h (Y) fun w G=> ⟨fun hD=> G.sel [1] Y Y, ?_⟩)
  have hD := G.sel [1] rfl rfl
  refine da J Y Y Y fun a J=> d0 <| then_n (hK2 _ _ <| wp_seq_k fun K3 hK3=> wp_seq_k fun K4 hK4=> wp_region_lit <| mv J Y Y fun a J=> sw J Y Y Y (R.as (u := .bool true) (R.neq (p := (F.rep asks.length).2) (q := 0) (J.ev Y) (J.ev Y)) (congrArg Value.bool (decide_eq_true he))) fun a J=> s0 <| then_n (hK4 _ _ <| cT J Y <| wp_seq_k fun K5 hK5=> wp_region_lit <| mv J Y Y fun a J=> av J Y Y fun a J=> s0 <| then_n (hK5 _ _ <| wp_ret (then_r (hR _ _ _ _ _ J (run_results Tryz.results87 (.t J Y (.nil))) ?_)))))
  exact ⟨_, s17, Y, ⟨Y, [], s17, Y, hH2⟩, G.one (.t (.t (.t .h)))⟩
 refine dl Y (wn Y) (O.alloc Y Y J ze32 Y G fun b5 a w J G=> ⟨fun hD=> G.sel [1] Y Y, ?_⟩)
 have hD := G.sel [1] rfl rfl
 refine dl Y (wn Y) (O.callM Y Y J (J.ev Y) (meth_load F.hb) ent184 (J.evs Y) G (load_calls F asks _ (u 0) _ hNX hH (G.own1 (.t (.t (.t .h)))) (hQ.down G (.t (.t (.t .h)))) (hI.down G (.t (.t (.t .h)))) hla) (fun _=> (.t (.t (.t .h)))) fun v s17 a w hR J G=> ⟨fun hD=> G.sel [1] Y Y, ?_⟩)
 have hD := G.sel [1] rfl rfl
 obtain ⟨rfl, hH2⟩ := hR
 refine dm J Y Y Y fun a J=> dx J Y Y Y Y fun a J=> dx J Y Y Y Y fun a J=> dl Y (wn Y) (O.storeW sz32 (J.ev Y) (J.ev Y) (Y) Y (by simp [Value.oneCell']) G .h (Y) fun w G=> ⟨fun hD=> G.sel [1] Y Y, ?_⟩)
 have hD := G.sel [1] rfl rfl
 refine da J Y Y Y fun a J=> d0 <| then_n (hK2 _ _ <| wp_seq_k fun K6 hK6=> wp_seq_k fun K7 hK7=> wp_region_lit <| mv J Y Y fun a J=> sw J Y Y Y (R.as (u := .bool true) (R.neq (p := (F.rep asks.length).2) (q := 0) (J.ev Y) (J.ev Y)) (congrArg Value.bool (decide_eq_true he))) fun a J=> s0 <| then_n (hK7 _ _ <| cT J Y <| wp_seq_k fun K8 hK8=> wp_region_lit <| mv J Y Y fun a J=> av J Y Y fun a J=> s0 <| then_n (hK8 _ _ <| wp_ret (then_r (hR _ _ _ _ _ J (run_results Tryz.results87 (.t J Y (.nil))) ?_)))))
 exact ⟨_, s17, Y, ⟨Y, [], s17, Y, hH2⟩, G.one (.t (.t (.t .h)))⟩
set_option maxHeartbeats 2000000 in
theorem save_ok (F : Fx) (V : Vr) (stk : List Nat) (asks : List Fw.Ask) (s1 s2 : Seg) (vb : Nat) (u : Nat → Nat) (w0 : World) (hNX : NextOK F) (hRun : RunS F V stk s1) (hH : HostS F asks s2) (ho : Own w0 (s1 ++ s2)) (hv : RdK w0 ((s1 ++ s2).map (·.1)) (some ⟨vb, 0, none⟩) (vc u)) (hvM : ∀ i, u i < 115792089237316195423570985008687907853269984665640564039457584007913129639936) (hQ : RdK w0 ((s1 ++ s2).map (·.1)) F.qA (F.reps.flatMap repc)) (hI : RdK w0 ((s1 ++ s2).map (·.1)) F.iA (byts F.inner)) (hl : stk.length ≤ 64) (hla : asks.length ≤ 20000) (he : (F.rep asks.length).2 = 0) : Ret Tryz.prog 88 [.pointer (some ⟨F.rb, 0, none⟩), .slice (some ⟨vb, 0, none⟩) 2 3] w0 ((s1 ++ s2).map (·.1)) (fun v s' => DidH F V stk (asks ++ [⟨2, u 0, u 1, 0, 0⟩]) v s') := by
 refine fn_start Tryz.func88 Y Tryz.ntmps88 Y [(0, .pointer (some ⟨F.rb, 0, none⟩)), (1, .slice (some ⟨vb, 0, none⟩) 2 3)] ⟨Y, Y, trivial⟩ ?_
 intro Q a hP J hR hN
 have G := St.enter ho
 obtain ⟨A, c, sg, hs, hO⟩ := hRun; have G := G.flat (bs' := [[(F.rb, Cel (rcells F (.slice A stk.length c) V) 103)], sg, s2]) (by simp [hs])
 refine wp_seq_k fun K1 hK1=> wp_region_lit <| av J Y Y fun a J=> s0 <| then_n (hK1 _ _ <| wp_seq_k fun K2 hK2=> wp_drawG G (G.sel [0] Y Y) [(0, 0), (1, 0), (2, 0), (3, 1), (4, 0), (5, 0), (6, 1), (7, 0), (8, 0), (9, 1), (10, 0), (11, 0), (12, 2), (13, 0)] mix (by kernel_rfl) (hP.then) fun w G hD=> ?_)
 refine dm J Y Y Y fun a J=> dv J Y Y Y Y (fun w=> R.nilCheck (J.ev Y)) fun a J=> dv J Y Y Y Y (fun w=> R.fieldAddr (k := 49) Tryz.underlying103 Y nz100 (J.ev Y) Y) fun a J=> ds J Y Y Y Y hD (fun w hD=> R.load one100 (J.ev Y) hD .h (Y)) fun a J=> ?_
 refine dm J Y Y Y fun a J=> dv J Y Y Y Y (fun w=> R.indexO Tryz.underlying33 sz32 (J.ev Y) (by simp) (J.ev Y) (by omega) (by omega)) fun a J=> ds J Y Y Y Y hD (fun w hD=> R.loadAO (cs := wc (u 0)) agg32 (J.ev Y) (hv.old hD) sz32 Y (Nat.succ_pos _) (v0_at Y)) fun a J=> ?_
 refine dm J Y Y Y fun a J=> dv J Y Y Y Y (fun w=> R.indexO Tryz.underlying33 sz32 (J.ev Y) (by simp) (J.ev Y) (by omega) (by omega)) fun a J=> ds J Y Y Y Y hD (fun w hD=> R.loadAO (cs := wc (u 1)) agg32 (J.ev Y) (hv.old hD) sz32 Y (Nat.succ_pos _) (v1_at Y)) fun a J=> ?_
 refine dv J Y Y Y Y (fun w=> R.nilCheckI (J.ev Y)) fun a J=> dm J Y Y Y fun a J=> dl Y (wn Y) (O.callM Y Y J (J.ev Y) (meth_save F.hb) ent185 (J.evs Y) G (save_calls F asks _ (u 0) (u 1) _ hNX hH (G.own1 (.t (.t .h))) (hQ.down G (.t (.t .h))) (hI.down G (.t (.t .h))) hla) (fun _=> (.t (.t .h))) fun v s17 a w hR J G=> ⟨fun hD=> G.sel [0] Y Y, ?_⟩)
 have hD := G.sel [0] rfl rfl
 obtain ⟨rfl, hH2⟩ := hR
 refine da J Y Y Y fun a J=> d0 <| then_n (hK2 _ _ <| wp_ret (hR _ _ _ _ _ J (run_results Tryz.results88 (.t J Y (.nil))) ?_))
 rw [he]
 exact ⟨_, ((F.rb, Cel (rcells F (.slice A stk.length c) V) 103) :: sg) ++ s17, Y, ⟨Y, _, s17, Y, ⟨A, c, sg, Y, hO⟩, hH2⟩, (G.sel [0, 1, 2] Y Y).flat (by simp [selS])⟩
set_option maxHeartbeats 2000000 in
theorem save_err (F : Fx) (V : Vr) (stk : List Nat) (asks : List Fw.Ask) (s1 s2 : Seg) (vb : Nat) (u : Nat → Nat) (w0 : World) (hNX : NextOK F) (hRun : RunS F V stk s1) (hH : HostS F asks s2) (ho : Own w0 (s1 ++ s2)) (hv : RdK w0 ((s1 ++ s2).map (·.1)) (some ⟨vb, 0, none⟩) (vc u)) (hvM : ∀ i, u i < 115792089237316195423570985008687907853269984665640564039457584007913129639936) (hQ : RdK w0 ((s1 ++ s2).map (·.1)) F.qA (F.reps.flatMap repc)) (hI : RdK w0 ((s1 ++ s2).map (·.1)) F.iA (byts F.inner)) (hl : stk.length ≤ 64) (hla : asks.length ≤ 20000) (he : ¬ (F.rep asks.length).2 = 0) : Ret Tryz.prog 88 [.pointer (some ⟨F.rb, 0, none⟩), .slice (some ⟨vb, 0, none⟩) 2 3] w0 ((s1 ++ s2).map (·.1)) (fun v s' => ErrH F (asks ++ [⟨2, u 0, u 1, 0, 0⟩]) (F.rep asks.length).2 v s') := by
 refine fn_start Tryz.func88 Y Tryz.ntmps88 Y [(0, .pointer (some ⟨F.rb, 0, none⟩)), (1, .slice (some ⟨vb, 0, none⟩) 2 3)] ⟨Y, Y, trivial⟩ ?_
 intro Q a hP J hR hN
 have G := St.enter ho
 obtain ⟨A, c, sg, hs, hO⟩ := hRun; have G := G.flat (bs' := [[(F.rb, Cel (rcells F (.slice A stk.length c) V) 103)], sg, s2]) (by simp [hs])
 refine wp_seq_k fun K1 hK1=> wp_region_lit <| av J Y Y fun a J=> s0 <| then_n (hK1 _ _ <| wp_seq_k fun K2 hK2=> wp_drawG G (G.sel [0] Y Y) [(0, 0), (1, 0), (2, 0), (3, 1), (4, 0), (5, 0), (6, 1), (7, 0), (8, 0), (9, 1), (10, 0), (11, 0), (12, 2), (13, 0)] mix (by kernel_rfl) (hP.then) fun w G hD=> ?_)
 refine dm J Y Y Y fun a J=> dv J Y Y Y Y (fun w=> R.nilCheck (J.ev Y)) fun a J=> dv J Y Y Y Y (fun w=> R.fieldAddr (k := 49) Tryz.underlying103 Y nz100 (J.ev Y) Y) fun a J=> ds J Y Y Y Y hD (fun w hD=> R.load one100 (J.ev Y) hD .h (Y)) fun a J=> ?_
 refine dm J Y Y Y fun a J=> dv J Y Y Y Y (fun w=> R.indexO Tryz.underlying33 sz32 (J.ev Y) (by simp) (J.ev Y) (by omega) (by omega)) fun a J=> ds J Y Y Y Y hD (fun w hD=> R.loadAO (cs := wc (u 0)) agg32 (J.ev Y) (hv.old hD) sz32 Y (Nat.succ_pos _) (v0_at Y)) fun a J=> ?_
 refine dm J Y Y Y fun a J=> dv J Y Y Y Y (fun w=> R.indexO Tryz.underlying33 sz32 (J.ev Y) (by simp) (J.ev Y) (by omega) (by omega)) fun a J=> ds J Y Y Y Y hD (fun w hD=> R.loadAO (cs := wc (u 1)) agg32 (J.ev Y) (hv.old hD) sz32 Y (Nat.succ_pos _) (v1_at Y)) fun a J=> ?_
 refine dv J Y Y Y Y (fun w=> R.nilCheckI (J.ev Y)) fun a J=> dm J Y Y Y fun a J=> dl Y (wn Y) (O.callM Y Y J (J.ev Y) (meth_save F.hb) ent185 (J.evs Y) G (save_calls F asks _ (u 0) (u 1) _ hNX hH (G.own1 (.t (.t .h))) (hQ.down G (.t (.t .h))) (hI.down G (.t (.t .h))) hla) (fun _=> (.t (.t .h))) fun v s17 a w hR J G=> ⟨fun hD=> G.sel [0] Y Y, ?_⟩)
 have hD := G.sel [0] rfl rfl
 obtain ⟨rfl, hH2⟩ := hR
 refine da J Y Y Y fun a J=> d0 <| then_n (hK2 _ _ <| wp_ret (hR _ _ _ _ _ J (run_results Tryz.results88 (.t J Y (.nil))) ?_))
 exact ⟨_, s17, Y, ⟨Y, [], s17, Y, hH2⟩, G.one (.t (.t .h))⟩
set_option maxHeartbeats 2000000 in
theorem have_tok (F : Fx) (V : Vr) (stk : List Nat) (asks : List Fw.Ask) (s1 s2 : Seg) (vb : Nat) (u : Nat → Nat) (w0 : World) (hNX : NextOK F) (hRun : RunS F V stk s1) (hH : HostS F asks s2) (ho : Own w0 (s1 ++ s2)) (hv : RdK w0 ((s1 ++ s2).map (·.1)) (some ⟨vb, 0, none⟩) (vc u)) (hvM : ∀ i, u i < 115792089237316195423570985008687907853269984665640564039457584007913129639936) (hQ : RdK w0 ((s1 ++ s2).map (·.1)) F.qA (F.reps.flatMap repc)) (hI : RdK w0 ((s1 ++ s2).map (·.1)) F.iA (byts F.inner)) (hl : stk.length ≤ 64) (hla : asks.length ≤ 20000) (ht : ¬ u 0 < 64) : Ret Tryz.prog 89 [.pointer (some ⟨F.rb, 0, none⟩), .slice (some ⟨vb, 0, none⟩) 2 3] w0 ((s1 ++ s2).map (·.1)) (fun v s' => v = .int .i64 104 ∧ s' = s1 ++ s2) := by
 refine fn_start Tryz.func89 Y Tryz.ntmps89 Y [(0, .pointer (some ⟨F.rb, 0, none⟩)), (1, .slice (some ⟨vb, 0, none⟩) 2 3)] ⟨Y, Y, trivial⟩ ?_
 intro Q a hP J hR hN
 have G := St.enter ho
 obtain ⟨A, c, sg, hs, hO⟩ := hRun; have G := G.flat (bs' := [[(F.rb, Cel (rcells F (.slice A stk.length c) V) 103)], sg, s2]) (by simp [hs])
 refine wp_seq_k fun K1 hK1=> wp_region_lit <| av J Y Y fun a J=> s0 <| then_n (hK1 _ _ <| wp_seq_k fun K2 hK2=> wp_region_lit <| mv J Y Y fun a J=> sw J Y Y Y (R.indexO Tryz.underlying33 sz32 (J.ev Y) (by simp) (J.ev Y) (by omega) (by omega)) fun a J=> sw J Y Y Y (R.loadAO (cs := wc (u 0)) agg32 (J.ev Y) (hv.old G) sz32 Y (Nat.succ_pos _) (v0_at Y)) fun a J=> so (wn Y) (O.call Y Y J ent126 (J.evs Y) G (tokenOf_calls (u 0) _ (hvM 0)) fun v s13 a w hR J G=> ?_))
 obtain ⟨rfl, rfl⟩ := hR
 rw [if_neg ht] at J
 refine mv J Y Y fun a J=> xv J Y Y Y fun a J=> xv J Y Y Y fun a J=> av J Y Y fun a J=> av J Y Y fun a J=> s0 <| then_n (hK2 _ _ <| wp_seq_k fun K3 hK3=> wp_seq_k fun K4 hK4=> wp_region_lit <| mv J Y Y fun a J=> ?_)
 refine sw J Y Y Y ((by first | exact R.notD (J.ev Y) | exact R.not (J.ev Y))) fun a J=> ?_
 refine s0 <| then_n (hK4 _ _ <| cT J Y <| wp_seq_k fun K5 hK5=> wp_region_lit <| av J Y Y fun a J=> s0 <| then_n (hK5 _ _ <| wp_ret (then_r (hR _ _ _ _ _ J (run_results Tryz.results89 (.t J Y (.nil))) ?_))))
 exact ⟨_, s1 ++ s2, Y, ⟨Y, Y⟩, (G.sel [1, 2, 3] Y Y).flat (by simp [hs, selS])⟩
set_option maxHeartbeats 2000000 in
theorem send_tok (F : Fx) (V : Vr) (stk : List Nat) (asks : List Fw.Ask) (s1 s2 : Seg) (vb : Nat) (u : Nat → Nat) (w0 : World) (hNX : NextOK F) (hRun : RunS F V stk s1) (hH : HostS F asks s2) (ho : Own w0 (s1 ++ s2)) (hv : RdK w0 ((s1 ++ s2).map (·.1)) (some ⟨vb, 0, none⟩) (vc u)) (hvM : ∀ i, u i < 115792089237316195423570985008687907853269984665640564039457584007913129639936) (hQ : RdK w0 ((s1 ++ s2).map (·.1)) F.qA (F.reps.flatMap repc)) (hI : RdK w0 ((s1 ++ s2).map (·.1)) F.iA (byts F.inner)) (hl : stk.length ≤ 64) (hla : asks.length ≤ 20000) (ht : ¬ u 0 < 64) : Ret Tryz.prog 90 [.pointer (some ⟨F.rb, 0, none⟩), .slice (some ⟨vb, 0, none⟩) 3 3] w0 ((s1 ++ s2).map (·.1)) (fun v s' => v = .int .i64 104 ∧ s' = s1 ++ s2) := by
 refine fn_start Tryz.func90 Y Tryz.ntmps90 Y [(0, .pointer (some ⟨F.rb, 0, none⟩)), (1, .slice (some ⟨vb, 0, none⟩) 3 3)] ⟨Y, Y, trivial⟩ ?_
 intro Q a hP J hR hN
 have G := St.enter ho
 obtain ⟨A, c, sg, hs, hO⟩ := hRun; have G := G.flat (bs' := [[(F.rb, Cel (rcells F (.slice A stk.length c) V) 103)], sg, s2]) (by simp [hs])
 refine wp_seq_k fun K1 hK1=> wp_region_lit <| av J Y Y fun a J=> s0 <| then_n (hK1 _ _ <| wp_seq_k fun K2 hK2=> wp_region_lit <| mv J Y Y fun a J=> sw J Y Y Y (R.indexO Tryz.underlying33 sz32 (J.ev Y) (by simp) (J.ev Y) (by omega) (by omega)) fun a J=> sw J Y Y Y (R.loadAO (cs := wc (u 0)) agg32 (J.ev Y) (hv.old G) sz32 Y (Nat.succ_pos _) (v0_at Y)) fun a J=> so (wn Y) (O.call Y Y J ent126 (J.evs Y) G (tokenOf_calls (u 0) _ (hvM 0)) fun v s11 a w hR J G=> ?_))
 obtain ⟨rfl, rfl⟩ := hR
 rw [if_neg ht] at J
 refine mv J Y Y fun a J=> xv J Y Y Y fun a J=> xv J Y Y Y fun a J=> av J Y Y fun a J=> av J Y Y fun a J=> s0 <| then_n (hK2 _ _ <| wp_seq_k fun K3 hK3=> wp_seq_k fun K4 hK4=> wp_region_lit <| mv J Y Y fun a J=> ?_)
 refine sw J Y Y Y ((by first | exact R.notD (J.ev Y) | exact R.not (J.ev Y))) fun a J=> ?_
 refine s0 <| then_n (hK4 _ _ <| cT J Y <| wp_seq_k fun K5 hK5=> wp_region_lit <| av J Y Y fun a J=> s0 <| then_n (hK5 _ _ <| wp_ret (then_r (hR _ _ _ _ _ J (run_results Tryz.results90 (.t J Y (.nil))) ?_))))
 exact ⟨_, s1 ++ s2, Y, ⟨Y, Y⟩, (G.sel [1, 2, 3] Y Y).flat (by simp [hs, selS])⟩
set_option maxHeartbeats 2000000 in
theorem have_ok (F : Fx) (V : Vr) (stk : List Nat) (asks : List Fw.Ask) (s1 s2 : Seg) (vb : Nat) (u : Nat → Nat) (w0 : World) (hNX : NextOK F) (hRun : RunS F V stk s1) (hH : HostS F asks s2) (ho : Own w0 (s1 ++ s2)) (hv : RdK w0 ((s1 ++ s2).map (·.1)) (some ⟨vb, 0, none⟩) (vc u)) (hvM : ∀ i, u i < 115792089237316195423570985008687907853269984665640564039457584007913129639936) (hQ : RdK w0 ((s1 ++ s2).map (·.1)) F.qA (F.reps.flatMap repc)) (hI : RdK w0 ((s1 ++ s2).map (·.1)) F.iA (byts F.inner)) (hl : stk.length ≤ 64) (hla : asks.length ≤ 20000) (ht : u 0 < 64) (he : (F.rep asks.length).2 = 0) : Ret Tryz.prog 89 [.pointer (some ⟨F.rb, 0, none⟩), .slice (some ⟨vb, 0, none⟩) 2 3] w0 ((s1 ++ s2).map (·.1)) (fun v s' => DidH F V (stk ++ [(F.rep asks.length).1]) (asks ++ [⟨3, 0, 0, u 0, u 1⟩]) v s') := by
 refine fn_start Tryz.func89 Y Tryz.ntmps89 Y [(0, .pointer (some ⟨F.rb, 0, none⟩)), (1, .slice (some ⟨vb, 0, none⟩) 2 3)] ⟨Y, Y, trivial⟩ ?_
 intro Q a hP J hR hN
 have G := St.enter ho
 obtain ⟨A, c, sg, hs, hO⟩ := hRun; have G := G.flat (bs' := [[(F.rb, Cel (rcells F (.slice A stk.length c) V) 103)], sg, s2]) (by simp [hs])
 refine wp_seq_k fun K1 hK1=> wp_region_lit <| av J Y Y fun a J=> s0 <| then_n (hK1 _ _ <| wp_seq_k fun K2 hK2=> wp_region_lit <| mv J Y Y fun a J=> sw J Y Y Y (R.indexO Tryz.underlying33 sz32 (J.ev Y) (by simp) (J.ev Y) (by omega) (by omega)) fun a J=> sw J Y Y Y (R.loadAO (cs := wc (u 0)) agg32 (J.ev Y) (hv.old G) sz32 Y (Nat.succ_pos _) (v0_at Y)) fun a J=> so (wn Y) (O.call Y Y J ent126 (J.evs Y) G (tokenOf_calls (u 0) _ (hvM 0)) fun v s13 a w hR J G=> ?_))
 obtain ⟨rfl, rfl⟩ := hR
 rw [if_pos ht] at J
 refine mv J Y Y fun a J=> xv J Y Y Y fun a J=> xv J Y Y Y fun a J=> av J Y Y fun a J=> av J Y Y fun a J=> s0 <| then_n (hK2 _ _ <| wp_seq_k fun K3 hK3=> wp_seq_k fun K4 hK4=> wp_region_lit <| mv J Y Y fun a J=> ?_)
 refine sw J Y Y Y ((by first | exact R.notD (J.ev Y) | exact R.not (J.ev Y))) fun a J=> ?_
 refine s0 <| then_n (hK4 _ _ <| cF J Y <| wp_skip <| then_n (hK3 _ _ <| wp_seq_k fun K5 hK5=> wp_drawN G (G.sel [1] Y Y) [(0, 0), (1, 0), (2, 0), (3, 1), (4, 0), (5, 0), (6, 0), (7, 1), (9, 0), (10, 0), (8, 2), (11, 2), (12, 0), (13, 0), (14, 0), (15, 2), (16, 2), (17, 0)] (.node [(0, 0), (1, 0), (2, 0), (3, 1), (4, 0), (5, 0), (6, 0), (7, 1), (9, 0), (10, 0)] (.node [(8, 2)] (.leaf [(11, 2), (12, 0), (13, 0), (14, 0), (15, 2), (16, 2), (17, 0)]) (.leaf [(15, 2), (11, 2), (12, 0), (13, 0), (14, 0), (16, 2), (17, 0)])) (.leaf [(15, 2), (8, 2), (11, 2), (12, 0), (13, 0), (14, 0), (16, 2), (17, 0)])) mix (by kernel_rfl) (hP.then) fun w G hD=> ?_))
 refine dm J Y Y Y fun a J=> dv J Y Y Y Y (fun w=> R.nilCheck (J.ev Y)) fun a J=> dv J Y Y Y Y (fun w=> R.fieldAddr (k := 49) Tryz.underlying103 Y nz100 (J.ev Y) Y) fun a J=> ds J Y Y Y Y hD (fun w hD=> R.load one100 (J.ev Y) hD .h (Y)) fun a J=> ?_
 refine dm J Y Y Y fun a J=> dm J Y Y Y fun a J=> dv J Y Y Y Y (fun w=> R.indexO Tryz.underlying33 sz32 (J.ev Y) (by simp) (J.ev Y) (by omega) (by omega)) fun a J=> ds J Y Y Y Y hD (fun w hD=> R.loadAO (cs := wc (u 1)) agg32 (J.ev Y) (hv.old hD) sz32 Y (Nat.succ_pos _) (v1_at Y)) fun a J=> ?_
 refine dv J Y Y Y Y (fun w=> R.nilCheckI (J.ev Y)) fun a J=> dm J Y Y Y fun a J=> d0 <| ⟨?_, ?_⟩
 ·refine dl Y (wn Y) (O.call Y Y J ent127 (J.evs Y) G (address_calls (u 1) _) fun v s27 a w hR J G=> ⟨fun hD=> G.sel [2] Y Y, ?_⟩)
  obtain ⟨rfl, rfl⟩ := hR
  have hD := G.sel [2] rfl rfl
  refine d0 <| ⟨?_, ?_⟩
  ·refine dl Y (wn Y) (O.callM Y Y J (J.ev Y) (meth_have F.hb) ent183 (J.evs Y) G (have_calls F asks _ (u 0) (u 1) _ hNX hH (G.own1 (.t (.t (.t (.t .h))))) (hQ.down G (.t (.t (.t (.t .h))))) (hI.down G (.t (.t (.t (.t .h))))) hla) (fun _=> (.t (.t (.t (.t .h))))) fun v s30 a w hR J G=> ⟨fun hD=> G.sel [2] Y Y, ?_⟩)
   have hD := G.sel [2] rfl rfl
   obtain ⟨rfl, hH2⟩ := hR
   refine dm J Y Y Y fun a J=> dx J Y Y Y Y fun a J=> dx J Y Y Y Y fun a J=> dl Y (wn Y) (O.alloc Y Y J ze32 Y G fun b7 a w J G=> ⟨fun hD=> G.sel [3] Y Y, ?_⟩)
   have hD := G.sel [3] rfl rfl
   refine dl Y (wn Y) (O.storeW sz32 (J.ev Y) (J.ev Y) (Y) Y (by simp [Value.oneCell']) G .h (Y) fun w G=> ⟨fun hD=> G.sel [3] Y Y, ?_⟩)
   have hD := G.sel [3] rfl rfl
   refine da J Y Y Y fun a J=> d0 <| then_n (hK5 _ _ <| wp_seq_k fun K6 hK6=> wp_seq_k fun K7 hK7=> wp_region_lit <| mv J Y Y fun a J=> sw J Y Y Y (R.as (u := .bool false) (R.neq (p := (F.rep asks.length).2) (q := 0) (J.ev Y) (J.ev Y)) (congrArg Value.bool (decide_eq_false (fun h=> h he)))) fun a J=> s0 <| then_n (hK7 _ _ <| cF J Y <| wp_skip <| then_n (hK6 _ _ <| wp_seq_k fun K8 hK8=> wp_region_lit <| mv J Y Y fun a J=> sw J Y Y Y (R.loadW agg32 (J.ev Y) G .h sz32 (Y)) fun a J=> ?_)))
   have G := (G.sel [3, 4, 5] rfl rfl).flat (bs' := [(F.rb, Cel (rcells F (.slice A stk.length c) V) 103) :: sg, s30]) (by simp [selS])
   refine so (wn Y) (O.callK Y Y J ent117 (J.evs Y) G (on_calls F V stk _ ((F.rep asks.length).1) _ ⟨A, c, sg, Y, hO⟩ (G.own1 .h) (hl)) (fun _=> .h) fun v s38 a w hR J G=> ?_)
   obtain ⟨rfl, hRun2⟩ := hR
   refine av J Y Y fun a J=> s0 <| then_n (hK8 _ _ <| wp_ret (hR _ _ _ _ _ J (run_results Tryz.results89 (.t J Y (.nil))) ?_))
   exact ⟨_, s38 ++ s30, Y, ⟨Y, s38, s30, Y, hRun2, hH2⟩, (G.sel [0, 1] Y Y).flat (by simp [selS])⟩
  refine dl Y (wn Y) (O.alloc Y Y J ze32 Y G fun b7 a w J G=> ⟨fun hD=> G.sel [3] Y Y, ?_⟩)
  have hD := G.sel [3] rfl rfl
  refine dl Y (wn Y) (O.callM Y Y J (J.ev Y) (meth_have F.hb) ent183 (J.evs Y) G (have_calls F asks _ (u 0) (u 1) _ hNX hH (G.own1 (.t (.t (.t (.t (.t .h)))))) (hQ.down G (.t (.t (.t (.t (.t .h)))))) (hI.down G (.t (.t (.t (.t (.t .h)))))) hla) (fun _=> (.t (.t (.t (.t (.t .h)))))) fun v s30 a w hR J G=> ⟨fun hD=> G.sel [3] Y Y, ?_⟩)
  have hD := G.sel [3] rfl rfl
  obtain ⟨rfl, hH2⟩ := hR
  refine dm J Y Y Y fun a J=> dx J Y Y Y Y fun a J=> dx J Y Y Y Y fun a J=> dl Y (wn Y) (O.storeW sz32 (J.ev Y) (J.ev Y) (Y) Y (by simp [Value.oneCell']) G .h (Y) fun w G=> ⟨fun hD=> G.sel [3] Y Y, ?_⟩)
  have hD := G.sel [3] rfl rfl
  refine da J Y Y Y fun a J=> d0 <| then_n (hK5 _ _ <| wp_seq_k fun K9 hK9=> wp_seq_k fun K10 hK10=> wp_region_lit <| mv J Y Y fun a J=> sw J Y Y Y (R.as (u := .bool false) (R.neq (p := (F.rep asks.length).2) (q := 0) (J.ev Y) (J.ev Y)) (congrArg Value.bool (decide_eq_false (fun h=> h he)))) fun a J=> s0 <| then_n (hK10 _ _ <| cF J Y <| wp_skip <| then_n (hK9 _ _ <| wp_seq_k fun K11 hK11=> wp_region_lit <| mv J Y Y fun a J=> sw J Y Y Y (R.loadW agg32 (J.ev Y) G .h sz32 (Y)) fun a J=> ?_)))
  have G := (G.sel [3, 4, 5] rfl rfl).flat (bs' := [(F.rb, Cel (rcells F (.slice A stk.length c) V) 103) :: sg, s30]) (by simp [selS])
  refine so (wn Y) (O.callK Y Y J ent117 (J.evs Y) G (on_calls F V stk _ ((F.rep asks.length).1) _ ⟨A, c, sg, Y, hO⟩ (G.own1 .h) (hl)) (fun _=> .h) fun v s38 a w hR J G=> ?_)
  obtain ⟨rfl, hRun2⟩ := hR
  refine av J Y Y fun a J=> s0 <| then_n (hK11 _ _ <| wp_ret (hR _ _ _ _ _ J (run_results Tryz.results89 (.t J Y (.nil))) ?_))
  exact ⟨_, s38 ++ s30, Y, ⟨Y, s38, s30, Y, hRun2, hH2⟩, (G.sel [0, 1] Y Y).flat (by simp [selS])⟩
 refine dl Y (wn Y) (O.alloc Y Y J ze32 Y G fun b7 a w J G=> ⟨fun hD=> G.sel [2] Y Y, ?_⟩)
 have hD := G.sel [2] rfl rfl
 refine dl Y (wn Y) (O.call Y Y J ent127 (J.evs Y) G (address_calls (u 1) _) fun v s27 a w hR J G=> ⟨fun hD=> G.sel [3] Y Y, ?_⟩)
 obtain ⟨rfl, rfl⟩ := hR
 have hD := G.sel [3] rfl rfl
 refine dl Y (wn Y) (O.callM Y Y J (J.ev Y) (meth_have F.hb) ent183 (J.evs Y) G (have_calls F asks _ (u 0) (u 1) _ hNX hH (G.own1 (.t (.t (.t (.t (.t .h)))))) (hQ.down G (.t (.t (.t (.t (.t .h)))))) (hI.down G (.t (.t (.t (.t (.t .h)))))) hla) (fun _=> (.t (.t (.t (.t (.t .h)))))) fun v s30 a w hR J G=> ⟨fun hD=> G.sel [3] Y Y, ?_⟩)
 have hD := G.sel [3] rfl rfl
 obtain ⟨rfl, hH2⟩ := hR
 refine dm J Y Y Y fun a J=> dx J Y Y Y Y fun a J=> dx J Y Y Y Y fun a J=> dl Y (wn Y) (O.storeW sz32 (J.ev Y) (J.ev Y) (Y) Y (by simp [Value.oneCell']) G (.t .h) (Y) fun w G=> ⟨fun hD=> G.sel [3] Y Y, ?_⟩)
 have hD := G.sel [3] rfl rfl
 refine da J Y Y Y fun a J=> d0 <| then_n (hK5 _ _ <| wp_seq_k fun K12 hK12=> wp_seq_k fun K13 hK13=> wp_region_lit <| mv J Y Y fun a J=> sw J Y Y Y (R.as (u := .bool false) (R.neq (p := (F.rep asks.length).2) (q := 0) (J.ev Y) (J.ev Y)) (congrArg Value.bool (decide_eq_false (fun h=> h he)))) fun a J=> s0 <| then_n (hK13 _ _ <| cF J Y <| wp_skip <| then_n (hK12 _ _ <| wp_seq_k fun K14 hK14=> wp_region_lit <| mv J Y Y fun a J=> sw J Y Y Y (R.loadW agg32 (J.ev Y) G (.t .h) sz32 (Y)) fun a J=> ?_)))
 have G := (G.sel [3, 4, 5] rfl rfl).flat (bs' := [(F.rb, Cel (rcells F (.slice A stk.length c) V) 103) :: sg, s30]) (by simp [selS])
 refine so (wn Y) (O.callK Y Y J ent117 (J.evs Y) G (on_calls F V stk _ ((F.rep asks.length).1) _ ⟨A, c, sg, Y, hO⟩ (G.own1 .h) (hl)) (fun _=> .h) fun v s38 a w hR J G=> ?_)
 obtain ⟨rfl, hRun2⟩ := hR
 refine av J Y Y fun a J=> s0 <| then_n (hK14 _ _ <| wp_ret (hR _ _ _ _ _ J (run_results Tryz.results89 (.t J Y (.nil))) ?_))
 exact ⟨_, s38 ++ s30, Y, ⟨Y, s38, s30, Y, hRun2, hH2⟩, (G.sel [0, 1] Y Y).flat (by simp [selS])⟩
set_option maxHeartbeats 2000000 in
theorem send_ok (F : Fx) (V : Vr) (stk : List Nat) (asks : List Fw.Ask) (s1 s2 : Seg) (vb : Nat) (u : Nat → Nat) (w0 : World) (hNX : NextOK F) (hRun : RunS F V stk s1) (hH : HostS F asks s2) (ho : Own w0 (s1 ++ s2)) (hv : RdK w0 ((s1 ++ s2).map (·.1)) (some ⟨vb, 0, none⟩) (vc u)) (hvM : ∀ i, u i < 115792089237316195423570985008687907853269984665640564039457584007913129639936) (hQ : RdK w0 ((s1 ++ s2).map (·.1)) F.qA (F.reps.flatMap repc)) (hI : RdK w0 ((s1 ++ s2).map (·.1)) F.iA (byts F.inner)) (hl : stk.length ≤ 64) (hla : asks.length ≤ 20000) (ht : u 0 < 64) (he : (F.rep asks.length).2 = 0) : Ret Tryz.prog 90 [.pointer (some ⟨F.rb, 0, none⟩), .slice (some ⟨vb, 0, none⟩) 3 3] w0 ((s1 ++ s2).map (·.1)) (fun v s' => DidH F V stk (asks ++ [⟨4, u 2, 0, u 0, u 1⟩]) v s') := by
 refine fn_start Tryz.func90 Y Tryz.ntmps90 Y [(0, .pointer (some ⟨F.rb, 0, none⟩)), (1, .slice (some ⟨vb, 0, none⟩) 3 3)] ⟨Y, Y, trivial⟩ ?_
 intro Q a hP J hR hN
 have G := St.enter ho
 obtain ⟨A, c, sg, hs, hO⟩ := hRun; have G := G.flat (bs' := [[(F.rb, Cel (rcells F (.slice A stk.length c) V) 103)], sg, s2]) (by simp [hs])
 refine wp_seq_k fun K1 hK1=> wp_region_lit <| av J Y Y fun a J=> s0 <| then_n (hK1 _ _ <| wp_seq_k fun K2 hK2=> wp_region_lit <| mv J Y Y fun a J=> sw J Y Y Y (R.indexO Tryz.underlying33 sz32 (J.ev Y) (by simp) (J.ev Y) (by omega) (by omega)) fun a J=> sw J Y Y Y (R.loadAO (cs := wc (u 0)) agg32 (J.ev Y) (hv.old G) sz32 Y (Nat.succ_pos _) (v0_at Y)) fun a J=> so (wn Y) (O.call Y Y J ent126 (J.evs Y) G (tokenOf_calls (u 0) _ (hvM 0)) fun v s11 a w hR J G=> ?_))
 obtain ⟨rfl, rfl⟩ := hR
 rw [if_pos ht] at J
 refine mv J Y Y fun a J=> xv J Y Y Y fun a J=> xv J Y Y Y fun a J=> av J Y Y fun a J=> av J Y Y fun a J=> s0 <| then_n (hK2 _ _ <| wp_seq_k fun K3 hK3=> wp_seq_k fun K4 hK4=> wp_region_lit <| mv J Y Y fun a J=> ?_)
 refine sw J Y Y Y ((by first | exact R.notD (J.ev Y) | exact R.not (J.ev Y))) fun a J=> ?_
 refine s0 <| then_n (hK4 _ _ <| cF J Y <| wp_skip <| then_n (hK3 _ _ <| wp_seq_k fun K5 hK5=> wp_drawG G (G.sel [1] Y Y) [(0, 0), (1, 0), (2, 0), (3, 1), (4, 0), (5, 0), (6, 0), (7, 1), (9, 0), (10, 0), (11, 1), (12, 0), (13, 0), (8, 2), (14, 2), (15, 0)] mix (by kernel_rfl) (hP.then) fun w G hD=> ?_))
 refine dm J Y Y Y fun a J=> dv J Y Y Y Y (fun w=> R.nilCheck (J.ev Y)) fun a J=> dv J Y Y Y Y (fun w=> R.fieldAddr (k := 49) Tryz.underlying103 Y nz100 (J.ev Y) Y) fun a J=> ds J Y Y Y Y hD (fun w hD=> R.load one100 (J.ev Y) hD .h (Y)) fun a J=> ?_
 refine dm J Y Y Y fun a J=> dm J Y Y Y fun a J=> dv J Y Y Y Y (fun w=> R.indexO Tryz.underlying33 sz32 (J.ev Y) (by simp) (J.ev Y) (by omega) (by omega)) fun a J=> ds J Y Y Y Y hD (fun w hD=> R.loadAO (cs := wc (u 1)) agg32 (J.ev Y) (hv.old hD) sz32 Y (Nat.succ_pos _) (v1_at Y)) fun a J=> ?_
 refine dm J Y Y Y fun a J=> dv J Y Y Y Y (fun w=> R.indexO Tryz.underlying33 sz32 (J.ev Y) (by simp) (J.ev Y) (by omega) (by omega)) fun a J=> ds J Y Y Y Y hD (fun w hD=> R.loadAO (cs := wc (u 2)) agg32 (J.ev Y) (hv.old hD) sz32 Y (Nat.succ_pos _) (v2_at Y)) fun a J=> ?_
 refine dv J Y Y Y Y (fun w=> R.nilCheckI (J.ev Y)) fun a J=> dm J Y Y Y fun a J=> dl Y (wn Y) (O.call Y Y J ent127 (J.evs Y) G (address_calls (u 1) _) fun v s24 a w hR J G=> ⟨fun hD=> G.sel [2] Y Y, ?_⟩)
 obtain ⟨rfl, rfl⟩ := hR
 have hD := G.sel [2] rfl rfl
 refine dl Y (wn Y) (O.callM Y Y J (J.ev Y) (meth_send F.hb) ent186 (J.evs Y) G (send_calls F asks _ (u 0) (u 1) (u 2) _ hNX hH (G.own1 (.t (.t (.t (.t .h))))) (hQ.down G (.t (.t (.t (.t .h))))) (hI.down G (.t (.t (.t (.t .h))))) hla) (fun _=> (.t (.t (.t (.t .h))))) fun v s30 a w hR J G=> ⟨fun hD=> G.sel [2] Y Y, ?_⟩)
 have hD := G.sel [2] rfl rfl
 obtain ⟨rfl, hH2⟩ := hR
 refine da J Y Y Y fun a J=> d0 <| then_n (hK5 _ _ <| wp_ret (hR _ _ _ _ _ J (run_results Tryz.results90 (.t J Y (.nil))) ?_))
 rw [he]
 exact ⟨_, ((F.rb, Cel (rcells F (.slice A stk.length c) V) 103) :: sg) ++ s30, Y, ⟨Y, _, s30, Y, ⟨A, c, sg, Y, hO⟩, hH2⟩, (G.sel [2, 3, 4] Y Y).flat (by simp [selS])⟩
set_option maxHeartbeats 2000000 in
theorem have_err (F : Fx) (V : Vr) (stk : List Nat) (asks : List Fw.Ask) (s1 s2 : Seg) (vb : Nat) (u : Nat → Nat) (w0 : World) (hNX : NextOK F) (hRun : RunS F V stk s1) (hH : HostS F asks s2) (ho : Own w0 (s1 ++ s2)) (hv : RdK w0 ((s1 ++ s2).map (·.1)) (some ⟨vb, 0, none⟩) (vc u)) (hvM : ∀ i, u i < 115792089237316195423570985008687907853269984665640564039457584007913129639936) (hQ : RdK w0 ((s1 ++ s2).map (·.1)) F.qA (F.reps.flatMap repc)) (hI : RdK w0 ((s1 ++ s2).map (·.1)) F.iA (byts F.inner)) (hl : stk.length ≤ 64) (hla : asks.length ≤ 20000) (ht : u 0 < 64) (he : ¬ (F.rep asks.length).2 = 0) : Ret Tryz.prog 89 [.pointer (some ⟨F.rb, 0, none⟩), .slice (some ⟨vb, 0, none⟩) 2 3] w0 ((s1 ++ s2).map (·.1)) (fun v s' => ErrH F (asks ++ [⟨3, 0, 0, u 0, u 1⟩]) (F.rep asks.length).2 v s') := by
 refine fn_start Tryz.func89 Y Tryz.ntmps89 Y [(0, .pointer (some ⟨F.rb, 0, none⟩)), (1, .slice (some ⟨vb, 0, none⟩) 2 3)] ⟨Y, Y, trivial⟩ ?_
 intro Q a hP J hR hN
 have G := St.enter ho
 obtain ⟨A, c, sg, hs, hO⟩ := hRun; have G := G.flat (bs' := [[(F.rb, Cel (rcells F (.slice A stk.length c) V) 103)], sg, s2]) (by simp [hs])
 refine wp_seq_k fun K1 hK1=> wp_region_lit <| av J Y Y fun a J=> s0 <| then_n (hK1 _ _ <| wp_seq_k fun K2 hK2=> wp_region_lit <| mv J Y Y fun a J=> sw J Y Y Y (R.indexO Tryz.underlying33 sz32 (J.ev Y) (by simp) (J.ev Y) (by omega) (by omega)) fun a J=> sw J Y Y Y (R.loadAO (cs := wc (u 0)) agg32 (J.ev Y) (hv.old G) sz32 Y (Nat.succ_pos _) (v0_at Y)) fun a J=> so (wn Y) (O.call Y Y J ent126 (J.evs Y) G (tokenOf_calls (u 0) _ (hvM 0)) fun v s13 a w hR J G=> ?_))
 obtain ⟨rfl, rfl⟩ := hR
 rw [if_pos ht] at J
 refine mv J Y Y fun a J=> xv J Y Y Y fun a J=> xv J Y Y Y fun a J=> av J Y Y fun a J=> av J Y Y fun a J=> s0 <| then_n (hK2 _ _ <| wp_seq_k fun K3 hK3=> wp_seq_k fun K4 hK4=> wp_region_lit <| mv J Y Y fun a J=> ?_)
 refine sw J Y Y Y ((by first | exact R.notD (J.ev Y) | exact R.not (J.ev Y))) fun a J=> ?_
 refine s0 <| then_n (hK4 _ _ <| cF J Y <| wp_skip <| then_n (hK3 _ _ <| wp_seq_k fun K5 hK5=> wp_drawN G (G.sel [1] Y Y) [(0, 0), (1, 0), (2, 0), (3, 1), (4, 0), (5, 0), (6, 0), (7, 1), (9, 0), (10, 0), (8, 2), (11, 2), (12, 0), (13, 0), (14, 0), (15, 2), (16, 2), (17, 0)] (.node [(0, 0), (1, 0), (2, 0), (3, 1), (4, 0), (5, 0), (6, 0), (7, 1), (9, 0), (10, 0)] (.node [(8, 2)] (.leaf [(11, 2), (12, 0), (13, 0), (14, 0), (15, 2), (16, 2), (17, 0)]) (.leaf [(15, 2), (11, 2), (12, 0), (13, 0), (14, 0), (16, 2), (17, 0)])) (.leaf [(15, 2), (8, 2), (11, 2), (12, 0), (13, 0), (14, 0), (16, 2), (17, 0)])) mix (by kernel_rfl) (hP.then) fun w G hD=> ?_))
 refine dm J Y Y Y fun a J=> dv J Y Y Y Y (fun w=> R.nilCheck (J.ev Y)) fun a J=> dv J Y Y Y Y (fun w=> R.fieldAddr (k := 49) Tryz.underlying103 Y nz100 (J.ev Y) Y) fun a J=> ds J Y Y Y Y hD (fun w hD=> R.load one100 (J.ev Y) hD .h (Y)) fun a J=> ?_
 refine dm J Y Y Y fun a J=> dm J Y Y Y fun a J=> dv J Y Y Y Y (fun w=> R.indexO Tryz.underlying33 sz32 (J.ev Y) (by simp) (J.ev Y) (by omega) (by omega)) fun a J=> ds J Y Y Y Y hD (fun w hD=> R.loadAO (cs := wc (u 1)) agg32 (J.ev Y) (hv.old hD) sz32 Y (Nat.succ_pos _) (v1_at Y)) fun a J=> ?_
 refine dv J Y Y Y Y (fun w=> R.nilCheckI (J.ev Y)) fun a J=> dm J Y Y Y fun a J=> d0 <| ⟨?_, ?_⟩
 ·refine dl Y (wn Y) (O.call Y Y J ent127 (J.evs Y) G (address_calls (u 1) _) fun v s27 a w hR J G=> ⟨fun hD=> G.sel [2] Y Y, ?_⟩)
  obtain ⟨rfl, rfl⟩ := hR
  have hD := G.sel [2] rfl rfl
  refine d0 <| ⟨?_, ?_⟩
  ·refine dl Y (wn Y) (O.callM Y Y J (J.ev Y) (meth_have F.hb) ent183 (J.evs Y) G (have_calls F asks _ (u 0) (u 1) _ hNX hH (G.own1 (.t (.t (.t (.t .h))))) (hQ.down G (.t (.t (.t (.t .h))))) (hI.down G (.t (.t (.t (.t .h))))) hla) (fun _=> (.t (.t (.t (.t .h))))) fun v s30 a w hR J G=> ⟨fun hD=> G.sel [2] Y Y, ?_⟩)
   have hD := G.sel [2] rfl rfl
   obtain ⟨rfl, hH2⟩ := hR
   refine dm J Y Y Y fun a J=> dx J Y Y Y Y fun a J=> dx J Y Y Y Y fun a J=> dl Y (wn Y) (O.alloc Y Y J ze32 Y G fun b7 a w J G=> ⟨fun hD=> G.sel [3] Y Y, ?_⟩)
   have hD := G.sel [3] rfl rfl
   refine dl Y (wn Y) (O.storeW sz32 (J.ev Y) (J.ev Y) (Y) Y (by simp [Value.oneCell']) G .h (Y) fun w G=> ⟨fun hD=> G.sel [3] Y Y, ?_⟩)
   have hD := G.sel [3] rfl rfl
   refine da J Y Y Y fun a J=> d0 <| then_n (hK5 _ _ <| wp_seq_k fun K6 hK6=> wp_seq_k fun K7 hK7=> wp_region_lit <| mv J Y Y fun a J=> sw J Y Y Y (R.as (u := .bool true) (R.neq (p := (F.rep asks.length).2) (q := 0) (J.ev Y) (J.ev Y)) (congrArg Value.bool (decide_eq_true he))) fun a J=> s0 <| then_n (hK7 _ _ <| cT J Y <| wp_seq_k fun K8 hK8=> wp_region_lit <| mv J Y Y fun a J=> av J Y Y fun a J=> s0 <| then_n (hK8 _ _ <| wp_ret (then_r (hR _ _ _ _ _ J (run_results Tryz.results89 (.t J Y (.nil))) ?_)))))
   exact ⟨_, s30, Y, ⟨Y, [], s30, Y, hH2⟩, G.one (.t (.t (.t (.t (.t .h)))))⟩
  refine dl Y (wn Y) (O.alloc Y Y J ze32 Y G fun b7 a w J G=> ⟨fun hD=> G.sel [3] Y Y, ?_⟩)
  have hD := G.sel [3] rfl rfl
  refine dl Y (wn Y) (O.callM Y Y J (J.ev Y) (meth_have F.hb) ent183 (J.evs Y) G (have_calls F asks _ (u 0) (u 1) _ hNX hH (G.own1 (.t (.t (.t (.t (.t .h)))))) (hQ.down G (.t (.t (.t (.t (.t .h)))))) (hI.down G (.t (.t (.t (.t (.t .h)))))) hla) (fun _=> (.t (.t (.t (.t (.t .h)))))) fun v s30 a w hR J G=> ⟨fun hD=> G.sel [3] Y Y, ?_⟩)
  have hD := G.sel [3] rfl rfl
  obtain ⟨rfl, hH2⟩ := hR
  refine dm J Y Y Y fun a J=> dx J Y Y Y Y fun a J=> dx J Y Y Y Y fun a J=> dl Y (wn Y) (O.storeW sz32 (J.ev Y) (J.ev Y) (Y) Y (by simp [Value.oneCell']) G .h (Y) fun w G=> ⟨fun hD=> G.sel [3] Y Y, ?_⟩)
  have hD := G.sel [3] rfl rfl
  refine da J Y Y Y fun a J=> d0 <| then_n (hK5 _ _ <| wp_seq_k fun K9 hK9=> wp_seq_k fun K10 hK10=> wp_region_lit <| mv J Y Y fun a J=> sw J Y Y Y (R.as (u := .bool true) (R.neq (p := (F.rep asks.length).2) (q := 0) (J.ev Y) (J.ev Y)) (congrArg Value.bool (decide_eq_true he))) fun a J=> s0 <| then_n (hK10 _ _ <| cT J Y <| wp_seq_k fun K11 hK11=> wp_region_lit <| mv J Y Y fun a J=> av J Y Y fun a J=> s0 <| then_n (hK11 _ _ <| wp_ret (then_r (hR _ _ _ _ _ J (run_results Tryz.results89 (.t J Y (.nil))) ?_)))))
  exact ⟨_, s30, Y, ⟨Y, [], s30, Y, hH2⟩, G.one (.t (.t (.t (.t (.t .h)))))⟩
 refine dl Y (wn Y) (O.alloc Y Y J ze32 Y G fun b7 a w J G=> ⟨fun hD=> G.sel [2] Y Y, ?_⟩)
 have hD := G.sel [2] rfl rfl
 refine dl Y (wn Y) (O.call Y Y J ent127 (J.evs Y) G (address_calls (u 1) _) fun v s27 a w hR J G=> ⟨fun hD=> G.sel [3] Y Y, ?_⟩)
 obtain ⟨rfl, rfl⟩ := hR
 have hD := G.sel [3] rfl rfl
 refine dl Y (wn Y) (O.callM Y Y J (J.ev Y) (meth_have F.hb) ent183 (J.evs Y) G (have_calls F asks _ (u 0) (u 1) _ hNX hH (G.own1 (.t (.t (.t (.t (.t .h)))))) (hQ.down G (.t (.t (.t (.t (.t .h)))))) (hI.down G (.t (.t (.t (.t (.t .h)))))) hla) (fun _=> (.t (.t (.t (.t (.t .h)))))) fun v s30 a w hR J G=> ⟨fun hD=> G.sel [3] Y Y, ?_⟩)
 have hD := G.sel [3] rfl rfl
 obtain ⟨rfl, hH2⟩ := hR
 refine dm J Y Y Y fun a J=> dx J Y Y Y Y fun a J=> dx J Y Y Y Y fun a J=> dl Y (wn Y) (O.storeW sz32 (J.ev Y) (J.ev Y) (Y) Y (by simp [Value.oneCell']) G (.t .h) (Y) fun w G=> ⟨fun hD=> G.sel [3] Y Y, ?_⟩)
 have hD := G.sel [3] rfl rfl
 refine da J Y Y Y fun a J=> d0 <| then_n (hK5 _ _ <| wp_seq_k fun K12 hK12=> wp_seq_k fun K13 hK13=> wp_region_lit <| mv J Y Y fun a J=> sw J Y Y Y (R.as (u := .bool true) (R.neq (p := (F.rep asks.length).2) (q := 0) (J.ev Y) (J.ev Y)) (congrArg Value.bool (decide_eq_true he))) fun a J=> s0 <| then_n (hK13 _ _ <| cT J Y <| wp_seq_k fun K14 hK14=> wp_region_lit <| mv J Y Y fun a J=> av J Y Y fun a J=> s0 <| then_n (hK14 _ _ <| wp_ret (then_r (hR _ _ _ _ _ J (run_results Tryz.results89 (.t J Y (.nil))) ?_)))))
 exact ⟨_, s30, Y, ⟨Y, [], s30, Y, hH2⟩, G.one (.t (.t (.t (.t (.t .h)))))⟩
set_option maxHeartbeats 2000000 in
theorem send_err (F : Fx) (V : Vr) (stk : List Nat) (asks : List Fw.Ask) (s1 s2 : Seg) (vb : Nat) (u : Nat → Nat) (w0 : World) (hNX : NextOK F) (hRun : RunS F V stk s1) (hH : HostS F asks s2) (ho : Own w0 (s1 ++ s2)) (hv : RdK w0 ((s1 ++ s2).map (·.1)) (some ⟨vb, 0, none⟩) (vc u)) (hvM : ∀ i, u i < 115792089237316195423570985008687907853269984665640564039457584007913129639936) (hQ : RdK w0 ((s1 ++ s2).map (·.1)) F.qA (F.reps.flatMap repc)) (hI : RdK w0 ((s1 ++ s2).map (·.1)) F.iA (byts F.inner)) (hl : stk.length ≤ 64) (hla : asks.length ≤ 20000) (ht : u 0 < 64) (he : ¬ (F.rep asks.length).2 = 0) : Ret Tryz.prog 90 [.pointer (some ⟨F.rb, 0, none⟩), .slice (some ⟨vb, 0, none⟩) 3 3] w0 ((s1 ++ s2).map (·.1)) (fun v s' => ErrH F (asks ++ [⟨4, u 2, 0, u 0, u 1⟩]) (F.rep asks.length).2 v s') := by
 refine fn_start Tryz.func90 Y Tryz.ntmps90 Y [(0, .pointer (some ⟨F.rb, 0, none⟩)), (1, .slice (some ⟨vb, 0, none⟩) 3 3)] ⟨Y, Y, trivial⟩ ?_
 intro Q a hP J hR hN
 have G := St.enter ho
 obtain ⟨A, c, sg, hs, hO⟩ := hRun; have G := G.flat (bs' := [[(F.rb, Cel (rcells F (.slice A stk.length c) V) 103)], sg, s2]) (by simp [hs])
 refine wp_seq_k fun K1 hK1=> wp_region_lit <| av J Y Y fun a J=> s0 <| then_n (hK1 _ _ <| wp_seq_k fun K2 hK2=> wp_region_lit <| mv J Y Y fun a J=> sw J Y Y Y (R.indexO Tryz.underlying33 sz32 (J.ev Y) (by simp) (J.ev Y) (by omega) (by omega)) fun a J=> sw J Y Y Y (R.loadAO (cs := wc (u 0)) agg32 (J.ev Y) (hv.old G) sz32 Y (Nat.succ_pos _) (v0_at Y)) fun a J=> so (wn Y) (O.call Y Y J ent126 (J.evs Y) G (tokenOf_calls (u 0) _ (hvM 0)) fun v s11 a w hR J G=> ?_))
 obtain ⟨rfl, rfl⟩ := hR
 rw [if_pos ht] at J
 refine mv J Y Y fun a J=> xv J Y Y Y fun a J=> xv J Y Y Y fun a J=> av J Y Y fun a J=> av J Y Y fun a J=> s0 <| then_n (hK2 _ _ <| wp_seq_k fun K3 hK3=> wp_seq_k fun K4 hK4=> wp_region_lit <| mv J Y Y fun a J=> ?_)
 refine sw J Y Y Y ((by first | exact R.notD (J.ev Y) | exact R.not (J.ev Y))) fun a J=> ?_
 refine s0 <| then_n (hK4 _ _ <| cF J Y <| wp_skip <| then_n (hK3 _ _ <| wp_seq_k fun K5 hK5=> wp_drawG G (G.sel [1] Y Y) [(0, 0), (1, 0), (2, 0), (3, 1), (4, 0), (5, 0), (6, 0), (7, 1), (9, 0), (10, 0), (11, 1), (12, 0), (13, 0), (8, 2), (14, 2), (15, 0)] mix (by kernel_rfl) (hP.then) fun w G hD=> ?_))
 refine dm J Y Y Y fun a J=> dv J Y Y Y Y (fun w=> R.nilCheck (J.ev Y)) fun a J=> dv J Y Y Y Y (fun w=> R.fieldAddr (k := 49) Tryz.underlying103 Y nz100 (J.ev Y) Y) fun a J=> ds J Y Y Y Y hD (fun w hD=> R.load one100 (J.ev Y) hD .h (Y)) fun a J=> ?_
 refine dm J Y Y Y fun a J=> dm J Y Y Y fun a J=> dv J Y Y Y Y (fun w=> R.indexO Tryz.underlying33 sz32 (J.ev Y) (by simp) (J.ev Y) (by omega) (by omega)) fun a J=> ds J Y Y Y Y hD (fun w hD=> R.loadAO (cs := wc (u 1)) agg32 (J.ev Y) (hv.old hD) sz32 Y (Nat.succ_pos _) (v1_at Y)) fun a J=> ?_
 refine dm J Y Y Y fun a J=> dv J Y Y Y Y (fun w=> R.indexO Tryz.underlying33 sz32 (J.ev Y) (by simp) (J.ev Y) (by omega) (by omega)) fun a J=> ds J Y Y Y Y hD (fun w hD=> R.loadAO (cs := wc (u 2)) agg32 (J.ev Y) (hv.old hD) sz32 Y (Nat.succ_pos _) (v2_at Y)) fun a J=> ?_
 refine dv J Y Y Y Y (fun w=> R.nilCheckI (J.ev Y)) fun a J=> dm J Y Y Y fun a J=> dl Y (wn Y) (O.call Y Y J ent127 (J.evs Y) G (address_calls (u 1) _) fun v s24 a w hR J G=> ⟨fun hD=> G.sel [2] Y Y, ?_⟩)
 obtain ⟨rfl, rfl⟩ := hR
 have hD := G.sel [2] rfl rfl
 refine dl Y (wn Y) (O.callM Y Y J (J.ev Y) (meth_send F.hb) ent186 (J.evs Y) G (send_calls F asks _ (u 0) (u 1) (u 2) _ hNX hH (G.own1 (.t (.t (.t (.t .h))))) (hQ.down G (.t (.t (.t (.t .h))))) (hI.down G (.t (.t (.t (.t .h))))) hla) (fun _=> (.t (.t (.t (.t .h))))) fun v s30 a w hR J G=> ⟨fun hD=> G.sel [2] Y Y, ?_⟩)
 have hD := G.sel [2] rfl rfl
 obtain ⟨rfl, hH2⟩ := hR
 refine da J Y Y Y fun a J=> d0 <| then_n (hK5 _ _ <| wp_ret (hR _ _ _ _ _ J (run_results Tryz.results90 (.t J Y (.nil))) ?_))
 exact ⟨_, s30, Y, ⟨Y, [], s30, Y, hH2⟩, G.one (.t (.t (.t (.t .h))))⟩
end Go.Proofs.YtlapmbkfmbkdoaaGreatDoor
end
section
namespace Go.Proofs.YtlapmbkfmbkdoaaGreatDoor
open Go Go.Fw Go.RowKit
theorem RdK.left {w : World} {s1 s2 : Seg} {A : Option Addr} {cs : List Value} (h : RdK w ((s1 ++ s2).map (·.1)) A cs) : RdK w (s1.map (·.1)) A cs :=
  ⟨h.1, fun a ha hne hm => h.2 a ha hne (by rw [List.map_append]; exact List.mem_append_left _ hm)⟩
theorem Own.left {w : World} {s1 s2 : Seg} (h : Own w (s1 ++ s2)) : Own w s1 :=
  ⟨fun p hp => h.1 p (List.mem_append_left _ hp), by have := h.2; rw [List.map_append] at this; exact (List.nodup_append.1 this).1⟩
def Did (F : Fx) (V : Vr) (o : Out) (x : Value) (s' : Seg) : Prop := match o with
  | .more stk left p asks => x = .int .i64 0 ∧ left = V.left ∧ ∃ s1 s2, s' = s1 ++ s2 ∧ RunS F { V with next := p } stk s1 ∧ HostS F asks s2
  | .fin val left asks => x = .int .i64 0 ∧ left = V.left ∧ ∃ stk s1 s2, s' = s1 ++ s2 ∧ RunS F { V with ended := true, value := val } stk s1 ∧ HostS F asks s2
  | .err e asks => x = .int .i64 e ∧ e ≠ 0 ∧ ∃ s1 s2, s' = s1 ++ s2 ∧ HostS F asks s2
section
variable {F : Fx} {V : Vr} {stk stk' : List Nat} {asks : List Fw.Ask} {s1 s2 : Seg} {vb k : Nat} {u : Nat → Nat} {w0 : World} {vs : List Value} {val : Nat}
theorem did_more {V' : Vr} (ho : Own w0 (s1 ++ s2)) (hH : HostS F asks s2) (h : Ret Tryz.prog k vs w0 (s1.map (·.1)) (fun v s' => v = .int .i64 0 ∧ RunS F V' stk' s')) {p : Nat} (hV : { V with next := p } = V') :
    Ret Tryz.prog k vs w0 ((s1 ++ s2).map (·.1)) (Did F V (.more stk' V.left p asks)) := by
  subst hV
  exact (Ret.frame ho h).mono fun v s ⟨s1', ⟨h1, h2⟩, h3⟩ => ⟨h1, rfl, s1', s2, h3, h2, hH⟩
theorem did_err {e : Int} (he : e ≠ 0) (ho : Own w0 (s1 ++ s2)) (hH : HostS F asks s2) (h : Ret Tryz.prog k vs w0 (s1.map (·.1)) (fun v s' => v = .int .i64 e ∧ s' = s1)) :
    Ret Tryz.prog k vs w0 ((s1 ++ s2).map (·.1)) (Did F V (.err e asks)) :=
  (Ret.frame ho h).mono fun v s ⟨s1', ⟨h1, h2⟩, h3⟩ => ⟨h1, he, s1', s2, h3, hH⟩
theorem did_stay (ho : Own w0 (s1 ++ s2)) (hRun : RunS F V stk s1) (hH : HostS F asks s2) (h : Ret Tryz.prog k vs w0 (s1.map (·.1)) (fun v s' => v = .int .i64 0 ∧ s' = s1)) :
    Ret Tryz.prog k vs w0 ((s1 ++ s2).map (·.1)) (Did F V (.more stk V.left V.next asks)) :=
  (Ret.frame ho h).mono fun v s ⟨s1', ⟨h1, h2⟩, h3⟩ => ⟨h1, rfl, s1', s2, h3, by subst h2; exact hRun, hH⟩
theorem did_H {p : Nat} (hV : V.next = p) (h : Ret Tryz.prog k vs w0 ((s1 ++ s2).map (·.1)) (DidH F V stk' asks)) : Ret Tryz.prog k vs w0 ((s1 ++ s2).map (·.1)) (Did F V (.more stk' V.left p asks)) :=
  h.mono fun v s ⟨h1, a, b, h2, h3, h4⟩ => ⟨h1, rfl, a, b, h2, by subst hV; exact h3, h4⟩
theorem did_E {e : Int} (he : e ≠ 0) (h : Ret Tryz.prog k vs w0 ((s1 ++ s2).map (·.1)) (ErrH F asks e)) : Ret Tryz.prog k vs w0 ((s1 ++ s2).map (·.1)) (Did F V (.err e asks)) :=
  h.mono fun v s ⟨h1, a, b, h2, h3⟩ => ⟨h1, he, a, b, h2, h3⟩
end
theorem op_does (c : Nat) (F : Fx) (V : Vr) (stk : List Nat) (asks : List Fw.Ask) (s1 s2 : Seg) (vb : Nat) (u : Nat → Nat) (w0 : World)
    (hNX : NextOK F) (hK : F.Ok) (hc : cAt F.code V.p = c) (h28 : c < 28) (hp : V.p < F.code.length) (hs : sizeN F.code V.p ≠ 0) (hn : V.next = V.p + sizeN F.code V.p) (hq : V.left ≤ 10000)
    (hb : c = 4 ∨ c = 5 → cAt F.code (V.p + 1) < stk.length)
    (hRun : RunS F V stk s1) (hH : HostS F asks s2) (ho : Own w0 (s1 ++ s2)) (hv : RdK w0 ((s1 ++ s2).map (·.1)) (some ⟨vb, 0, none⟩) (vc u)) (hvM : ∀ i, u i < 115792089237316195423570985008687907853269984665640564039457584007913129639936)
    (hD : F.Rds w0 ((s1 ++ s2).map (·.1))) (hl : stk.length ≤ 64) (hla : asks.length ≤ 20000) :
    Ret Tryz.prog (63 + c) [.pointer (some ⟨F.rb, 0, none⟩), .slice (some ⟨vb, 0, none⟩) (takesN c) 3] w0 ((s1 ++ s2).map (·.1)) (Did F V (doN F.cl F.code F.rep c (cAt F.code (V.p + 1)) V.p V.left stk u asks)) := by
  have ho1 := Own.left ho
  have hC := RdK.left hD.code
  have hA := RdK.left hD.args
  have hv1 := RdK.left hv
  have hsz := (sizeN_le F.code V.p).resolve_left hs
  have e1 : V.p + sizeN F.code V.p = V.next := hn.symm
  have hV : { V with next := V.p + sizeN F.code V.p } = V := by rw [e1]
  have op2 : cAt F.code V.p = 4 ∨ cAt F.code V.p = 5 ∨ cAt F.code V.p = 16 → V.p + 1 < F.code.length := fun h => by
    have : sizeN F.code V.p = 2 := by
      revert hs; unfold sizeN
      repeat' split
      all_goals omega
    omega
  have op3 : cAt F.code V.p = 14 ∨ cAt F.code V.p = 15 → V.p + 3 ≤ F.code.length := fun h => jump_size hp hs (isJump_of h)
  have hcases : c = 0 ∨ c = 1 ∨ c = 2 ∨ c = 3 ∨ c = 4 ∨ c = 5 ∨ c = 6 ∨ c = 7 ∨ c = 8 ∨ c = 9 ∨ c = 10 ∨ c = 11 ∨ c = 12 ∨ c = 13 ∨ c = 14 ∨ c = 15 ∨ c = 16 ∨ c = 17 ∨ c = 18 ∨ c = 19 ∨ c = 20 ∨ c = 21 ∨ c = 22 ∨ c = 23 ∨ c = 24 ∨ c = 25 ∨ c = 26 ∨ c = 27 := by omega
  rcases hcases with rfl | rfl | rfl | rfl | rfl | rfl | rfl | rfl | rfl | rfl | rfl | rfl | rfl | rfl | rfl | rfl | rfl | rfl | rfl | rfl | rfl | rfl | rfl | rfl | rfl | rfl | rfl | rfl
  · exact did_err (by decide) ho hH (stop_op s1 _ F.rb w0 ho1)
  · exact (Ret.frame ho (done_op F V stk s1 vb u w0 hRun ho1 hv1 hvM hl)).mono fun v s ⟨s1', ⟨h1, h2⟩, h3⟩ => ⟨h1, rfl, stk, s1', s2, h3, h2, hH⟩
  · have h2 : sizeN F.code V.p = 2 + cAt F.code (V.p + 1) ∧ 1 ≤ cAt F.code (V.p + 1) ∧ cAt F.code (V.p + 1) ≤ 32 := by
      revert hs; unfold sizeN
      repeat' split
      all_goals omega
    have := push_op F V stk s1 (.slice (some ⟨vb, 0, none⟩) 0 3) (sizeN F.code V.p - 2) w0 hRun ho1 hK hC hl (by omega) (by omega) (by omega)
    exact did_more ho hH this hV
  · rw [show doN F.cl F.code F.rep 3 (cAt F.code (V.p + 1)) V.p V.left stk u asks = .more stk V.left (V.p + sizeN F.code V.p) asks from rfl, e1]
    exact did_stay ho hRun hH (pop_op s1 _ F.rb w0 ho1)
  · exact did_more ho hH (dup_op F V stk s1 (.slice (some ⟨vb, 0, none⟩) 0 3) w0 hRun ho1 hK hC hl (op2 (by omega)) (hb (by omega))) hV
  · exact did_more ho hH (swap_op F V stk s1 (.slice (some ⟨vb, 0, none⟩) 0 3) w0 hRun ho1 hK hC hl (op2 (by omega)) (hb (by omega))) hV
  · rw [show doN F.cl F.code F.rep 6 (cAt F.code (V.p + 1)) V.p V.left stk u asks = (match arithN 6 (u 0) (u 1) with | none => .err 104 asks | some r => .more (stk ++ [r]) V.left (V.p + sizeN F.code V.p) asks) from rfl]
    by_cases h : u 0 + u 1 < 115792089237316195423570985008687907853269984665640564039457584007913129639936
    · rw [show arithN 6 (u 0) (u 1) = some (u 0 + u 1) from if_pos h]
      exact did_more ho hH (add_good F V stk s1 vb u w0 hRun ho1 hv1 hvM hl h) hV
    · rw [show arithN 6 (u 0) (u 1) = none from if_neg h]
      exact did_err (by decide) ho hH (add_bad F V stk s1 vb u w0 hRun ho1 hv1 hvM hl h)
  · rw [show doN F.cl F.code F.rep 7 (cAt F.code (V.p + 1)) V.p V.left stk u asks = (match arithN 7 (u 0) (u 1) with | none => .err 104 asks | some r => .more (stk ++ [r]) V.left (V.p + sizeN F.code V.p) asks) from rfl]
    by_cases h : u 1 ≤ u 0
    · rw [show arithN 7 (u 0) (u 1) = some (u 0 - u 1) from by (have h' : ¬ u 0 < u 1 := by omega); simp [arithN, h']]
      exact did_more ho hH (sub_good F V stk s1 vb u w0 hRun ho1 hv1 hvM hl h) hV
    · rw [show arithN 7 (u 0) (u 1) = none from by (have h' : u 0 < u 1 := by omega); simp [arithN, h']]
      exact did_err (by decide) ho hH (sub_bad F V stk s1 vb u w0 hRun ho1 hv1 hvM hl h)
  · rw [show doN F.cl F.code F.rep 8 (cAt F.code (V.p + 1)) V.p V.left stk u asks = (match arithN 8 (u 0) (u 1) with | none => .err 104 asks | some r => .more (stk ++ [r]) V.left (V.p + sizeN F.code V.p) asks) from rfl]
    by_cases h : u 0 * u 1 < 115792089237316195423570985008687907853269984665640564039457584007913129639936
    · rw [show arithN 8 (u 0) (u 1) = some (u 0 * u 1) from if_pos h]
      exact did_more ho hH (mul_good F V stk s1 vb u w0 hRun ho1 hv1 hvM hl h) hV
    · rw [show arithN 8 (u 0) (u 1) = none from if_neg h]
      exact did_err (by decide) ho hH (mul_bad F V stk s1 vb u w0 hRun ho1 hv1 hvM hl h)
  · rw [show doN F.cl F.code F.rep 9 (cAt F.code (V.p + 1)) V.p V.left stk u asks = (match arithN 9 (u 0) (u 1) with | none => .err 104 asks | some r => .more (stk ++ [r]) V.left (V.p + sizeN F.code V.p) asks) from rfl]
    by_cases h : u 1 = 0
    · rw [show arithN 9 (u 0) (u 1) = none from if_pos h]
      exact did_err (by decide) ho hH (div_bad F V stk s1 vb u w0 hRun ho1 hv1 hvM hl h)
    · rw [show arithN 9 (u 0) (u 1) = some (u 0 / u 1) from if_neg h]
      exact did_more ho hH (div_good F V stk s1 vb u w0 hRun ho1 hv1 hvM hl h) hV
  · rw [show doN F.cl F.code F.rep 10 (cAt F.code (V.p + 1)) V.p V.left stk u asks = (match arithN 10 (u 0) (u 1) with | none => .err 104 asks | some r => .more (stk ++ [r]) V.left (V.p + sizeN F.code V.p) asks) from rfl]
    by_cases h : u 1 = 0
    · rw [show arithN 10 (u 0) (u 1) = none from if_pos h]
      exact did_err (by decide) ho hH (mod_bad F V stk s1 vb u w0 hRun ho1 hv1 hvM hl h)
    · rw [show arithN 10 (u 0) (u 1) = some (u 0 % u 1) from if_neg h]
      exact did_more ho hH (mod_good F V stk s1 vb u w0 hRun ho1 hv1 hvM hl h) hV
  · exact did_more ho hH (less_op F V stk s1 vb u w0 hRun ho1 hv1 hvM hl) hV
  · exact did_more ho hH (same_op F V stk s1 vb u w0 hRun ho1 hv1 hvM hl) hV
  · exact did_more ho hH (not_op F V stk s1 vb u w0 hRun ho1 hv1 hvM hl) hV
  · exact did_more ho hH (jump_op F V stk s1 (.slice (some ⟨vb, 0, none⟩) 0 3) w0 hRun ho1 hK hC hl (op3 (by omega))) rfl
  · rw [show doN F.cl F.code F.rep 15 (cAt F.code (V.p + 1)) V.p V.left stk u asks = .more stk V.left (if u 0 ≠ 0 then targetN F.code V.p else V.p + sizeN F.code V.p) asks from rfl]
    by_cases h : u 0 = 0
    · rw [if_neg (by simp [h])]
      exact did_more ho hH (when_stay F V stk s1 vb u w0 hRun ho1 hv1 hvM hl hK hC (op3 (by omega)) h) hV
    · rw [if_pos h]
      exact did_more ho hH (when_go F V stk s1 vb u w0 hRun ho1 hv1 hvM hl hK hC (op3 (by omega)) h) rfl
  · exact did_more ho hH (arg_op F V stk s1 (.slice (some ⟨vb, 0, none⟩) 0 3) w0 hRun ho1 hK hA hl hC (op2 (by omega))) hV
  · exact did_more ho hH (args_op F V stk s1 (.slice (some ⟨vb, 0, none⟩) 0 3) w0 hRun ho1 hK hA hl) hV
  · exact did_more ho hH (caller_op F V stk s1 (.slice (some ⟨vb, 0, none⟩) 0 3) w0 hRun ho1 hK hA hl) hV
  · exact did_more ho hH (self_op F V stk s1 (.slice (some ⟨vb, 0, none⟩) 0 3) w0 hRun ho1 hK hA hl) hV
  · exact did_more ho hH (token_op F V stk s1 (.slice (some ⟨vb, 0, none⟩) 0 3) w0 hRun ho1 hK hA hl) hV
  · exact did_more ho hH (amount_op F V stk s1 (.slice (some ⟨vb, 0, none⟩) 0 3) w0 hRun ho1 hK hA hl) hV
  · exact did_more ho hH (time_op F V stk s1 (.slice (some ⟨vb, 0, none⟩) 0 3) w0 hRun ho1 hK hA hl) hV
  · exact did_more ho hH (gas_op F V stk s1 (.slice (some ⟨vb, 0, none⟩) 0 3) w0 hRun ho1 hK hA hl (by omega)) hV
  · rw [show doN F.cl F.code F.rep 24 (cAt F.code (V.p + 1)) V.p V.left stk u asks = (if (F.rep asks.length).2 ≠ 0 then .err (F.rep asks.length).2 (asks ++ [⟨1, u 0, 0, 0, 0⟩]) else .more (stk ++ [(F.rep asks.length).1]) V.left (V.p + sizeN F.code V.p) (asks ++ [⟨1, u 0, 0, 0, 0⟩])) from rfl]
    by_cases h : (F.rep asks.length).2 = 0
    · rw [if_neg (by simp [h])]
      exact did_H hn (load_ok F V stk asks s1 s2 vb u w0 hNX hRun hH ho hv hvM hD.reps hD.inner hl hla h)
    · rw [if_pos h]
      exact did_E h (load_err F V stk asks s1 s2 vb u w0 hNX hRun hH ho hv hvM hD.reps hD.inner hl hla h)
  · rw [show doN F.cl F.code F.rep 25 (cAt F.code (V.p + 1)) V.p V.left stk u asks = (if (F.rep asks.length).2 ≠ 0 then .err (F.rep asks.length).2 (asks ++ [⟨2, u 0, u 1, 0, 0⟩]) else .more stk V.left (V.p + sizeN F.code V.p) (asks ++ [⟨2, u 0, u 1, 0, 0⟩])) from rfl]
    by_cases h : (F.rep asks.length).2 = 0
    · rw [if_neg (by simp [h])]
      exact did_H hn (save_ok F V stk asks s1 s2 vb u w0 hNX hRun hH ho hv hvM hD.reps hD.inner hl hla h)
    · rw [if_pos h]
      exact did_E h (save_err F V stk asks s1 s2 vb u w0 hNX hRun hH ho hv hvM hD.reps hD.inner hl hla h)
  · by_cases ht : u 0 < 64
    · rw [show doN F.cl F.code F.rep 26 (cAt F.code (V.p + 1)) V.p V.left stk u asks = (if (F.rep asks.length).2 ≠ 0 then .err (F.rep asks.length).2 (asks ++ [⟨3, 0, 0, u 0, u 1⟩]) else .more (stk ++ [(F.rep asks.length).1]) V.left (V.p + sizeN F.code V.p) (asks ++ [⟨3, 0, 0, u 0, u 1⟩])) from by
        have h64 : ¬ 64 ≤ u 0 := by omega
        simp [doN, askN, h64]]
      by_cases h : (F.rep asks.length).2 = 0
      · rw [if_neg (by simp [h])]
        exact did_H hn (have_ok F V stk asks s1 s2 vb u w0 hNX hRun hH ho hv hvM hD.reps hD.inner hl hla ht h)
      · rw [if_pos h]
        exact did_E h (have_err F V stk asks s1 s2 vb u w0 hNX hRun hH ho hv hvM hD.reps hD.inner hl hla ht h)
    · rw [show doN F.cl F.code F.rep 26 (cAt F.code (V.p + 1)) V.p V.left stk u asks = .err 104 asks from by
        have h64 : 64 ≤ u 0 := by omega
        simp [doN, askN, h64]]
      exact (have_tok F V stk asks s1 s2 vb u w0 hNX hRun hH ho hv hvM hD.reps hD.inner hl hla ht).mono fun v s ⟨h1, h2⟩ => ⟨h1, by decide, s1, s2, h2, hH⟩
  · by_cases ht : u 0 < 64
    · rw [show doN F.cl F.code F.rep 27 (cAt F.code (V.p + 1)) V.p V.left stk u asks = (if (F.rep asks.length).2 ≠ 0 then .err (F.rep asks.length).2 (asks ++ [⟨4, u 2, 0, u 0, u 1⟩]) else .more stk V.left (V.p + sizeN F.code V.p) (asks ++ [⟨4, u 2, 0, u 0, u 1⟩])) from by
        have h64 : ¬ 64 ≤ u 0 := by omega
        simp [doN, askN, h64]]
      by_cases h : (F.rep asks.length).2 = 0
      · rw [if_neg (by simp [h])]
        exact did_H hn (send_ok F V stk asks s1 s2 vb u w0 hNX hRun hH ho hv hvM hD.reps hD.inner hl hla ht h)
      · rw [if_pos h]
        exact did_E h (send_err F V stk asks s1 s2 vb u w0 hNX hRun hH ho hv hvM hD.reps hD.inner hl hla ht h)
    · rw [show doN F.cl F.code F.rep 27 (cAt F.code (V.p + 1)) V.p V.left stk u asks = .err 104 asks from by
        have h64 : 64 ≤ u 0 := by omega
        simp [doN, askN, h64]]
      exact (send_tok F V stk asks s1 s2 vb u w0 hNX hRun hH ho hv hvM hD.reps hD.inner hl hla ht).mono fun v s ⟨h1, h2⟩ => ⟨h1, by decide, s1, s2, h2, hH⟩
end Go.Proofs.YtlapmbkfmbkdoaaGreatDoor
end
section
namespace Go.Proofs.YtlapmbkfmbkdoaaGreatDoor
open Go Go.Fw Go.RowKit
attribute [local irreducible] Go.Oper.wp Go.Code.wp Go.wpList Go.Fw.WL Go.Calls
def tabR : List (List Value) := [[.string ⟨#[115, 116, 111, 112]⟩, .int .i64 1, .int .i64 0, .int .i64 0, .func (.func 63) #[] #[]],
  [.string ⟨#[100, 111, 110, 101]⟩, .int .i64 1, .int .i64 1, .int .i64 0, .func (.func 64) #[] #[]],
  [.string ⟨#[112, 117, 115, 104]⟩, .int .i64 1, .int .i64 0, .int .i64 1, .func (.func 65) #[] #[]],
  [.string ⟨#[112, 111, 112]⟩, .int .i64 1, .int .i64 1, .int .i64 0, .func (.func 66) #[] #[]],
  [.string ⟨#[100, 117, 112]⟩, .int .i64 1, .int .i64 0, .int .i64 1, .func (.func 67) #[] #[]],
  [.string ⟨#[115, 119, 97, 112]⟩, .int .i64 1, .int .i64 0, .int .i64 0, .func (.func 68) #[] #[]],
  [.string ⟨#[97, 100, 100]⟩, .int .i64 2, .int .i64 2, .int .i64 1, .func (.func 69) #[] #[]],
  [.string ⟨#[115, 117, 98]⟩, .int .i64 2, .int .i64 2, .int .i64 1, .func (.func 70) #[] #[]],
  [.string ⟨#[109, 117, 108]⟩, .int .i64 5, .int .i64 2, .int .i64 1, .func (.func 71) #[] #[]],
  [.string ⟨#[100, 105, 118]⟩, .int .i64 10, .int .i64 2, .int .i64 1, .func (.func 72) #[] #[]],
  [.string ⟨#[109, 111, 100]⟩, .int .i64 10, .int .i64 2, .int .i64 1, .func (.func 73) #[] #[]],
  [.string ⟨#[108, 101, 115, 115]⟩, .int .i64 2, .int .i64 2, .int .i64 1, .func (.func 74) #[] #[]],
  [.string ⟨#[115, 97, 109, 101]⟩, .int .i64 2, .int .i64 2, .int .i64 1, .func (.func 75) #[] #[]],
  [.string ⟨#[110, 111, 116]⟩, .int .i64 2, .int .i64 1, .int .i64 1, .func (.func 76) #[] #[]],
  [.string ⟨#[106, 117, 109, 112]⟩, .int .i64 5, .int .i64 0, .int .i64 0, .func (.func 77) #[] #[]],
  [.string ⟨#[119, 104, 101, 110]⟩, .int .i64 5, .int .i64 1, .int .i64 0, .func (.func 78) #[] #[]],
  [.string ⟨#[97, 114, 103]⟩, .int .i64 2, .int .i64 0, .int .i64 1, .func (.func 79) #[] #[]],
  [.string ⟨#[97, 114, 103, 115]⟩, .int .i64 2, .int .i64 0, .int .i64 1, .func (.func 80) #[] #[]],
  [.string ⟨#[99, 97, 108, 108, 101, 114]⟩, .int .i64 2, .int .i64 0, .int .i64 1, .func (.func 81) #[] #[]],
  [.string ⟨#[115, 101, 108, 102]⟩, .int .i64 2, .int .i64 0, .int .i64 1, .func (.func 82) #[] #[]],
  [.string ⟨#[116, 111, 107, 101, 110]⟩, .int .i64 2, .int .i64 0, .int .i64 1, .func (.func 83) #[] #[]],
  [.string ⟨#[97, 109, 111, 117, 110, 116]⟩, .int .i64 2, .int .i64 0, .int .i64 1, .func (.func 84) #[] #[]],
  [.string ⟨#[116, 105, 109, 101]⟩, .int .i64 2, .int .i64 0, .int .i64 1, .func (.func 85) #[] #[]],
  [.string ⟨#[103, 97, 115]⟩, .int .i64 2, .int .i64 0, .int .i64 1, .func (.func 86) #[] #[]],
  [.string ⟨#[108, 111, 97, 100]⟩, .int .i64 200, .int .i64 1, .int .i64 1, .func (.func 87) #[] #[]],
  [.string ⟨#[115, 97, 118, 101]⟩, .int .i64 200, .int .i64 2, .int .i64 0, .func (.func 88) #[] #[]],
  [.string ⟨#[104, 97, 118, 101]⟩, .int .i64 200, .int .i64 2, .int .i64 1, .func (.func 89) #[] #[]],
  [.string ⟨#[115, 101, 110, 100]⟩, .int .i64 500, .int .i64 3, .int .i64 0, .func (.func 90) #[] #[]]]
def tabL : List Value := tabR.flatten
def rowC (nm : ByteArray) (c : Nat) : List Value := [.string nm, .int .i64 ((priceN c : Nat) : Int), .int .i64 ((takesN c : Nat) : Int), .int .i64 ((laysN c : Nat) : Int), .func (.func (63 + c)) #[] #[]]
theorem row_tab {c : Nat} (h : c < 28) : ∃ nm, tabR[c]? = some (rowC nm c) := by
  have hcases : c = 0 ∨ c = 1 ∨ c = 2 ∨ c = 3 ∨ c = 4 ∨ c = 5 ∨ c = 6 ∨ c = 7 ∨ c = 8 ∨ c = 9 ∨ c = 10 ∨ c = 11 ∨ c = 12 ∨ c = 13 ∨ c = 14 ∨ c = 15 ∨ c = 16 ∨ c = 17 ∨ c = 18 ∨ c = 19 ∨ c = 20 ∨ c = 21 ∨ c = 22 ∨ c = 23 ∨ c = 24 ∨ c = 25 ∨ c = 26 ∨ c = 27 := by omega
  rcases hcases with rfl | rfl | rfl | rfl | rfl | rfl | rfl | rfl | rfl | rfl | rfl | rfl | rfl | rfl | rfl | rfl | rfl | rfl | rfl | rfl | rfl | rfl | rfl | rfl | rfl | rfl | rfl | rfl <;> exact ⟨_, rfl⟩
theorem flat_at {l : List (List Value)} {k m : Nat} {r : List Value} (hl : ∀ x ∈ l, x.length = m) (hk : l[k]? = some r) : ∀ j v, r[j]? = some v → l.flatten[k * m + j]? = some v := by
  induction l generalizing k with
  | nil => simp at hk
  | cons x l ih =>
    have hx := hl x (by simp)
    intro j v hj
    cases k with
    | zero =>
      simp only [List.getElem?_cons_zero, Option.some.injEq] at hk
      subst hk
      rw [List.flatten_cons, Nat.zero_mul, Nat.zero_add, List.getElem?_append_left]
      · exact hj
      · rcases Nat.lt_or_ge j x.length with h | h
        · exact h
        · rw [List.getElem?_eq_none h] at hj; simp at hj
    | succ k =>
      rw [List.flatten_cons, List.getElem?_append_right (by rw [hx, Nat.add_mul]; omega), hx, show (k + 1) * m + j - m = k * m + j by rw [Nat.add_mul]; omega]
      exact ih (fun y hy => hl y (by simp [hy])) (by simpa using hk) j v hj
theorem row_at {c : Nat} (h : c < 28) : ∃ nm, ∀ off, off = c * 5 → ∀ j v, (rowC nm c)[j]? = some v → tabL[off + j]? = some v := by
  obtain ⟨nm, hr⟩ := row_tab h
  refine ⟨nm, fun off ho => ?_⟩
  subst ho
  exact flat_at (by decide +kernel) hr
theorem one_row (nm : ByteArray) (c : Nat) : ∀ v ∈ rowC nm c, v.oneCell' = true := by simp [rowC, Value.oneCell']
theorem one_tab : ∀ v ∈ tabL, v.oneCell' = true := by decide +kernel
theorem entC {c : Nat} (h : c < 28) : ∀ args w, (callFunc (63 + c) args).run Tryz.prog w = .ok (.enter (63 + c) args) w := by
  have hcases : c = 0 ∨ c = 1 ∨ c = 2 ∨ c = 3 ∨ c = 4 ∨ c = 5 ∨ c = 6 ∨ c = 7 ∨ c = 8 ∨ c = 9 ∨ c = 10 ∨ c = 11 ∨ c = 12 ∨ c = 13 ∨ c = 14 ∨ c = 15 ∨ c = 16 ∨ c = 17 ∨ c = 18 ∨ c = 19 ∨ c = 20 ∨ c = 21 ∨ c = 22 ∨ c = 23 ∨ c = 24 ∨ c = 25 ∨ c = 26 ∨ c = 27 := by omega
  rcases hcases with rfl | rfl | rfl | rfl | rfl | rfl | rfl | rfl | rfl | rfl | rfl | rfl | rfl | rfl | rfl | rfl | rfl | rfl | rfl | rfl | rfl | rfl | rfl | rfl | rfl | rfl | rfl | rfl
  · exact ent63
  · exact ent64
  · exact ent65
  · exact ent66
  · exact ent67
  · exact ent68
  · exact ent69
  · exact ent70
  · exact ent71
  · exact ent72
  · exact ent73
  · exact ent74
  · exact ent75
  · exact ent76
  · exact ent77
  · exact ent78
  · exact ent79
  · exact ent80
  · exact ent81
  · exact ent82
  · exact ent83
  · exact ent84
  · exact ent85
  · exact ent86
  · exact ent87
  · exact ent88
  · exact ent89
  · exact ent90
theorem R.loadAP {P : Program} {w : World} {ρ : Operand → Value} {dst : Option Tmp} {ty : TypeId} {pos : String} {af : Array Edge} {g : Option (Nat × Bool)} {x : Operand} {T : TypeId} {b off m : Nat} {cs xs : List Value} (h : aggT P T = true) (hx : ρ x = .pointer (some ⟨b, off, none⟩)) (hA : Rd w (some ⟨b, 0, none⟩) xs) (hs' : szT P T m) (hm : cs.length = m) (hpos : 0 < cs.length) (hl : ∀ j v, cs[j]? = some v → xs[off + j]? = some v) :
    (execOp ρ ⟨dst, .load T x, ty, pos, af, g⟩).run P w = .ok (.value (.agg cs.toArray)) w := by
  have hB : Rd w (some ⟨b, off, none⟩) cs := fun j v hj => by
    obtain ⟨a, ha, hc⟩ := hA _ _ (hl j v hj)
    simp only [Option.some.injEq] at ha
    subst ha
    exact ⟨_, rfl, by rw [addr_add] at hc ⊢; simpa using hc⟩
  exact R.loadAO (A := some ⟨b, off, none⟩) (k := 0) h hx hB hs' hm hpos (fun j v hj => by rw [Nat.zero_add]; exact hj)
theorem take_small : ∀ c, c < 28 → takesN c ≤ 3 ∧ laysN c ≤ 1 ∧ priceN c ≤ 500 ∧ 1 ≤ priceN c := by decide
theorem take_45 {c : Nat} (h : c = 4 ∨ c = 5) : takesN c = 0 := by rcases h with rfl | rfl <;> rfl
theorem size_28 {xs : List Nat} {p : Nat} (hs : sizeN xs p ≠ 0) : cAt xs p < 28 := by
  revert hs; unfold sizeN
  split
  · intro h; exact absurd rfl h
  · intro _; omega
theorem size_2 {xs : List Nat} {p : Nat} (hs : sizeN xs p ≠ 0) (h : cAt xs p = 4 ∨ cAt xs p = 5) : p + 1 < xs.length := by
  have h1 := (sizeN_le xs p).resolve_left hs
  have : sizeN xs p = 2 := by
    revert hs; unfold sizeN
    repeat' split
    all_goals omega
  omega
theorem spl_top {stk : List Nat} {t : Nat} (ht : t ≤ 3) (hl : t ≤ stk.length) : spl (List.replicate 12 (.int .u64 0)) 0 (((stk.drop (stk.length - t)).flatMap wc).take (min (stk.length - (stk.length - t)) 3 * 4)) = vc (fun i => stk.getD (stk.length - t + i) 0) := by
  have e : min (stk.length - (stk.length - t)) 3 = t := by omega
  have hg : ∀ i, stk.getD (stk.length - t + i) 0 = (stk.drop (stk.length - t)).getD i 0 := fun i => by simp [List.getD_eq_getElem?_getD]
  have hf : (fun i => stk.getD (stk.length - t + i) 0) = fun i => (stk.drop (stk.length - t)).getD i 0 := funext hg
  rw [e, hf]
  have hlen : (stk.drop (stk.length - t)).length = t := by rw [List.length_drop]; omega
  generalize stk.drop (stk.length - t) = l at *
  match l, hlen with
  | [], h => simp at h; subst h; show _ = _; kernel_rfl
  | [a], h => simp at h; subst h; show _ = _; kernel_rfl
  | [a, b], h => simp at h; subst h; show _ = _; kernel_rfl
  | [a, b, c], h => simp at h; subst h; show _ = _; kernel_rfl
  | a :: b :: c :: d :: r, h => simp at h; omega
set_option maxHeartbeats 4000000 in
theorem table_calls  (w0 : World) : Ret Tryz.prog 33 [] w0 [] (fun v s => v = .agg tabL.toArray ∧ s = []) := by
 refine fn_start Tryz.func33 Y Tryz.ntmps33 Y [] trivial ?_
 intro Q a hP J hR hN
 have G := St.start w0
 refine wp_seq_k fun K1 hK1=> wp_region_lit <| so (wn Y) (O.alloc Y Y J ze73 Y G fun b0 a w J G=> ?_)
 refine s0 <| then_n (hK1 _ _ <| wp_seq_k fun K2 hK2=> wp_region_lit <| sw J Y Y Y (R.buildStr (l := [.string ⟨#[115, 116, 111, 112]⟩, .int .i64 1, .int .i64 0, .int .i64 0, .func (.func 63) #[] #[]]) Tryz.underlying72 ze72 pl72 (J.evp Y) (by kernel_rfl)) fun a J=> sw J Y Y Y (R.buildStr (l := [.string ⟨#[100, 111, 110, 101]⟩, .int .i64 1, .int .i64 1, .int .i64 0, .func (.func 64) #[] #[]]) Tryz.underlying72 ze72 pl72 (J.evp Y) (by kernel_rfl)) fun a J=> sw J Y Y Y (R.buildStr (l := [.string ⟨#[112, 117, 115, 104]⟩, .int .i64 1, .int .i64 0, .int .i64 1, .func (.func 65) #[] #[]]) Tryz.underlying72 ze72 pl72 (J.evp Y) (by kernel_rfl)) fun a J=> sw J Y Y Y (R.buildStr (l := [.string ⟨#[112, 111, 112]⟩, .int .i64 1, .int .i64 1, .int .i64 0, .func (.func 66) #[] #[]]) Tryz.underlying72 ze72 pl72 (J.evp Y) (by kernel_rfl)) fun a J=> sw J Y Y Y (R.buildStr (l := [.string ⟨#[100, 117, 112]⟩, .int .i64 1, .int .i64 0, .int .i64 1, .func (.func 67) #[] #[]]) Tryz.underlying72 ze72 pl72 (J.evp Y) (by kernel_rfl)) fun a J=> sw J Y Y Y (R.buildStr (l := [.string ⟨#[115, 119, 97, 112]⟩, .int .i64 1, .int .i64 0, .int .i64 0, .func (.func 68) #[] #[]]) Tryz.underlying72 ze72 pl72 (J.evp Y) (by kernel_rfl)) fun a J=> sw J Y Y Y (R.buildStr (l := [.string ⟨#[97, 100, 100]⟩, .int .i64 2, .int .i64 2, .int .i64 1, .func (.func 69) #[] #[]]) Tryz.underlying72 ze72 pl72 (J.evp Y) (by kernel_rfl)) fun a J=> sw J Y Y Y (R.buildStr (l := [.string ⟨#[115, 117, 98]⟩, .int .i64 2, .int .i64 2, .int .i64 1, .func (.func 70) #[] #[]]) Tryz.underlying72 ze72 pl72 (J.evp Y) (by kernel_rfl)) fun a J=> sw J Y Y Y (R.buildStr (l := [.string ⟨#[109, 117, 108]⟩, .int .i64 5, .int .i64 2, .int .i64 1, .func (.func 71) #[] #[]]) Tryz.underlying72 ze72 pl72 (J.evp Y) (by kernel_rfl)) fun a J=> sw J Y Y Y (R.buildStr (l := [.string ⟨#[100, 105, 118]⟩, .int .i64 10, .int .i64 2, .int .i64 1, .func (.func 72) #[] #[]]) Tryz.underlying72 ze72 pl72 (J.evp Y) (by kernel_rfl)) fun a J=> sw J Y Y Y (R.buildStr (l := [.string ⟨#[109, 111, 100]⟩, .int .i64 10, .int .i64 2, .int .i64 1, .func (.func 73) #[] #[]]) Tryz.underlying72 ze72 pl72 (J.evp Y) (by kernel_rfl)) fun a J=> sw J Y Y Y (R.buildStr (l := [.string ⟨#[108, 101, 115, 115]⟩, .int .i64 2, .int .i64 2, .int .i64 1, .func (.func 74) #[] #[]]) Tryz.underlying72 ze72 pl72 (J.evp Y) (by kernel_rfl)) fun a J=> sw J Y Y Y (R.buildStr (l := [.string ⟨#[115, 97, 109, 101]⟩, .int .i64 2, .int .i64 2, .int .i64 1, .func (.func 75) #[] #[]]) Tryz.underlying72 ze72 pl72 (J.evp Y) (by kernel_rfl)) fun a J=> sw J Y Y Y (R.buildStr (l := [.string ⟨#[110, 111, 116]⟩, .int .i64 2, .int .i64 1, .int .i64 1, .func (.func 76) #[] #[]]) Tryz.underlying72 ze72 pl72 (J.evp Y) (by kernel_rfl)) fun a J=> sw J Y Y Y (R.buildStr (l := [.string ⟨#[106, 117, 109, 112]⟩, .int .i64 5, .int .i64 0, .int .i64 0, .func (.func 77) #[] #[]]) Tryz.underlying72 ze72 pl72 (J.evp Y) (by kernel_rfl)) fun a J=> sw J Y Y Y (R.buildStr (l := [.string ⟨#[119, 104, 101, 110]⟩, .int .i64 5, .int .i64 1, .int .i64 0, .func (.func 78) #[] #[]]) Tryz.underlying72 ze72 pl72 (J.evp Y) (by kernel_rfl)) fun a J=> sw J Y Y Y (R.buildStr (l := [.string ⟨#[97, 114, 103]⟩, .int .i64 2, .int .i64 0, .int .i64 1, .func (.func 79) #[] #[]]) Tryz.underlying72 ze72 pl72 (J.evp Y) (by kernel_rfl)) fun a J=> sw J Y Y Y (R.buildStr (l := [.string ⟨#[97, 114, 103, 115]⟩, .int .i64 2, .int .i64 0, .int .i64 1, .func (.func 80) #[] #[]]) Tryz.underlying72 ze72 pl72 (J.evp Y) (by kernel_rfl)) fun a J=> sw J Y Y Y (R.buildStr (l := [.string ⟨#[99, 97, 108, 108, 101, 114]⟩, .int .i64 2, .int .i64 0, .int .i64 1, .func (.func 81) #[] #[]]) Tryz.underlying72 ze72 pl72 (J.evp Y) (by kernel_rfl)) fun a J=> sw J Y Y Y (R.buildStr (l := [.string ⟨#[115, 101, 108, 102]⟩, .int .i64 2, .int .i64 0, .int .i64 1, .func (.func 82) #[] #[]]) Tryz.underlying72 ze72 pl72 (J.evp Y) (by kernel_rfl)) fun a J=> ?_)
 refine sw J Y Y Y (R.buildStr (l := [.string ⟨#[116, 111, 107, 101, 110]⟩, .int .i64 2, .int .i64 0, .int .i64 1, .func (.func 83) #[] #[]]) Tryz.underlying72 ze72 pl72 (J.evp Y) (by kernel_rfl)) fun a J=> sw J Y Y Y (R.buildStr (l := [.string ⟨#[97, 109, 111, 117, 110, 116]⟩, .int .i64 2, .int .i64 0, .int .i64 1, .func (.func 84) #[] #[]]) Tryz.underlying72 ze72 pl72 (J.evp Y) (by kernel_rfl)) fun a J=> sw J Y Y Y (R.buildStr (l := [.string ⟨#[116, 105, 109, 101]⟩, .int .i64 2, .int .i64 0, .int .i64 1, .func (.func 85) #[] #[]]) Tryz.underlying72 ze72 pl72 (J.evp Y) (by kernel_rfl)) fun a J=> sw J Y Y Y (R.buildStr (l := [.string ⟨#[103, 97, 115]⟩, .int .i64 2, .int .i64 0, .int .i64 1, .func (.func 86) #[] #[]]) Tryz.underlying72 ze72 pl72 (J.evp Y) (by kernel_rfl)) fun a J=> sw J Y Y Y (R.buildStr (l := [.string ⟨#[108, 111, 97, 100]⟩, .int .i64 200, .int .i64 1, .int .i64 1, .func (.func 87) #[] #[]]) Tryz.underlying72 ze72 pl72 (J.evp Y) (by kernel_rfl)) fun a J=> sw J Y Y Y (R.buildStr (l := [.string ⟨#[115, 97, 118, 101]⟩, .int .i64 200, .int .i64 2, .int .i64 0, .func (.func 88) #[] #[]]) Tryz.underlying72 ze72 pl72 (J.evp Y) (by kernel_rfl)) fun a J=> sw J Y Y Y (R.buildStr (l := [.string ⟨#[104, 97, 118, 101]⟩, .int .i64 200, .int .i64 2, .int .i64 1, .func (.func 89) #[] #[]]) Tryz.underlying72 ze72 pl72 (J.evp Y) (by kernel_rfl)) fun a J=> sw J Y Y Y (R.buildStr (l := [.string ⟨#[115, 101, 110, 100]⟩, .int .i64 500, .int .i64 3, .int .i64 0, .func (.func 90) #[] #[]]) Tryz.underlying72 ze72 pl72 (J.evp Y) (by kernel_rfl)) fun a J=> sw J Y Y Y (R.buildArr (l := tabL) Tryz.underlying73 ze73 sz72 (J.evp Y) (by kernel_rfl)) fun a J=> so (wn Y) (O.storeW sz73 (J.ev Y) (J.ev Y) (Y) Y (one_tab) G .h (Y) fun w G=> ?_)
 refine s0 <| then_n (hK2 _ _ <| wp_ret (hR _ _ _ _ _ J (run_results Tryz.results33 (.cw J Y agg73 G .h sz73 (Y) (.nil))) ?_))
 exact ⟨_, [], Y, ⟨Y, Y⟩, G.none⟩
end Go.Proofs.YtlapmbkfmbkdoaaGreatDoor
end
section
namespace Go.Proofs.YtlapmbkfmbkdoaaGreatDoor
open Go Go.Fw Go.RowKit
attribute [local irreducible] Go.Oper.wp Go.Code.wp Go.wpList Go.Fw.WL Go.Calls
def DidS (F : Fx) (V : Vr) (o : Out) (x : Value) (s' : Seg) : Prop := match o with
  | .more stk left p asks => x = .int .i64 0 ∧ ∃ V' s1 s2, s' = s1 ++ s2 ∧ RunS F V' stk s1 ∧ HostS F asks s2 ∧ V'.left = left ∧ V'.next = p ∧ V'.ended = V.ended ∧ V'.value = V.value
  | .fin val left asks => x = .int .i64 0 ∧ ∃ V' stk s1 s2, s' = s1 ++ s2 ∧ RunS F V' stk s1 ∧ HostS F asks s2 ∧ V'.left = left ∧ V'.ended = true ∧ V'.value = val
  | .err e asks => x = .int .i64 e ∧ e ≠ 0 ∧ ∃ s1 s2, s' = s1 ++ s2 ∧ HostS F asks s2
theorem did_did {F : Fx} {V V' : Vr} {o : Out} {x : Value} {s' : Seg} (h : Did F V' o x s') (h1 : V'.ended = V.ended) (h2 : V'.value = V.value) : DidS F V o x s' := by
  cases o with
  | more stk left p asks =>
    obtain ⟨a, b, s1, s2, c, d, e⟩ := h
    exact ⟨a, _, s1, s2, c, d, e, b.symm, rfl, h1, h2⟩
  | fin val left asks =>
    obtain ⟨a, b, stk, s1, s2, c, d, e⟩ := h
    exact ⟨a, _, stk, s1, s2, c, d, e, b.symm, rfl, rfl⟩
  | err e asks => exact h
theorem stp_end {cl : Cl} {code : List Nat} {rep : Nat → Nat × Int} {stk : List Nat} {left p : Nat} {asks : List Fw.Ask} (h : code.length ≤ p) : stp cl code rep stk left p asks = .err 106 asks := by simp [stp, h]
theorem stp_gas {cl : Cl} {code : List Nat} {rep : Nat → Nat × Int} {stk : List Nat} {left p : Nat} {asks : List Fw.Ask} (h : p < code.length) (h2 : left < priceN (cAt code p)) : stp cl code rep stk left p asks = .err 102 asks := by
  have : ¬ code.length ≤ p := by omega
  simp [stp, this, h2]
def deepN (code : List Nat) (p : Nat) : Nat := if cAt code p = 4 ∨ cAt code p = 5 then cAt code (p + 1) + 1 else takesN (cAt code p)
theorem deep_le {code : List Nat} {p : Nat} : takesN (cAt code p) ≤ deepN code p := by
  unfold deepN
  split
  · rename_i h; rw [take_45 h]; omega
  · exact Nat.le_refl _
theorem stp_stack {cl : Cl} {code : List Nat} {rep : Nat → Nat × Int} {stk : List Nat} {left p : Nat} {asks : List Fw.Ask} (h : p < code.length) (h2 : ¬ left < priceN (cAt code p)) (h3 : stk.length < deepN code p ∨ 64 < stk.length - takesN (cAt code p) + laysN (cAt code p)) : stp cl code rep stk left p asks = .err 103 asks := by
  have h1 : ¬ code.length ≤ p := by omega
  unfold stp
  rw [if_neg h1, if_neg h2]
  exact if_pos h3
theorem stp_do {cl : Cl} {code : List Nat} {rep : Nat → Nat × Int} {stk : List Nat} {left p : Nat} {asks : List Fw.Ask} (h : p < code.length) (h2 : ¬ left < priceN (cAt code p)) (h3 : ¬ (stk.length < deepN code p ∨ 64 < stk.length - takesN (cAt code p) + laysN (cAt code p))) :
    stp cl code rep stk left p asks = doN cl code rep (cAt code p) (cAt code (p + 1)) p (left - priceN (cAt code p)) (stk.take (stk.length - takesN (cAt code p))) (fun i => stk.getD (stk.length - takesN (cAt code p) + i) 0) asks := by
  have h1 : ¬ code.length ≤ p := by omega
  unfold stp
  rw [if_neg h1, if_neg h2]
  exact if_neg h3
theorem one70 : oneT Tryz.prog 70 = true := by kernel_rfl
theorem nz70 : nzT Tryz.prog 70 = true := by kernel_rfl
theorem ze100b : zeT Tryz.prog 140 (.agg (List.replicate 12 (.int .u64 0)).toArray) := by unfold zeT; kernel_rfl
set_option maxHeartbeats 4000000 in
theorem step_calls (F : Fx) (V : Vr) (stk : List Nat) (asks : List Fw.Ask) (s1 s2 : Seg) (tb : Nat) (w0 : World) (hNX : NextOK F) (hK : F.Ok) (hval : V.p < F.code.length → sizeN F.code V.p ≠ 0) (hRun : RunS F V stk s1) (hH : HostS F asks s2) (ho : Own w0 (s1 ++ s2)) (hT : RdK w0 ((s1 ++ s2).map (·.1)) (some ⟨tb, 0, none⟩) tabL) (hD' : F.Rds w0 ((s1 ++ s2).map (·.1))) (hl : stk.length ≤ 64) (hW : AllW stk) (hla : asks.length ≤ 20000) (hq : V.left ≤ 10000) : Ret Tryz.prog 51 [.pointer (some ⟨F.rb, 0, none⟩), .pointer (some ⟨tb, 0, none⟩)] w0 ((s1 ++ s2).map (·.1)) (fun x s' => DidS F V (stp F.cl F.code F.rep stk V.left V.p asks) x s') := by
 refine fn_start Tryz.func51 Y Tryz.ntmps51 Y [(0, .pointer (some ⟨F.rb, 0, none⟩)), (1, .pointer (some ⟨tb, 0, none⟩))] ⟨Y, Y, trivial⟩ ?_
 intro Q a hP J hR hN
 have G := St.enter ho
 obtain ⟨A, c, sg, hs, hO⟩ := hRun; have G := G.flat (bs' := [[(F.rb, Cel (rcells F (.slice A stk.length c) V) 103)], sg, s2]) (by simp [hs])
 refine wp_seq_k fun K1 hK1=> wp_region_lit <| av J Y Y fun a J=> s0 <| then_n (hK1 _ _ <| wp_seq_k fun K2 hK2=> wp_seq_k fun K3 hK3=> wp_drawG G (G.sel [0] Y Y) [(0, 0), (1, 0), (2, 0), (3, 1), (4, 0), (5, 0), (6, 0), (7, 1), (8, 0), (9, 0)] mix (by kernel_rfl) (hP.then.then) fun w G hD=> ?_)
 refine dm J Y Y Y fun a J=> dv J Y Y Y Y (fun w=> R.nilCheck (J.ev Y)) fun a J=> dv J Y Y Y Y (fun w=> R.fieldAddr (k := 52) Tryz.underlying103 Y nz3 (J.ev Y) Y) fun a J=> ds J Y Y Y Y hD (fun w hD=> R.load one3 (J.ev Y) hD .h (Y)) fun a J=> ?_
 refine dm J Y Y Y fun a J=> dv J Y Y Y Y (fun w=> R.nilCheck (J.ev Y)) fun a J=> dv J Y Y Y Y (fun w=> R.fieldAddr (k := 0) Tryz.underlying103 Y nz22 (J.ev Y) Y) fun a J=> ds J Y Y Y Y hD (fun w hD=> R.load one22 (J.ev Y) hD .h (Y)) fun a J=> ?_
 refine dv J Y Y Y Y (fun w=> R.len Tryz.underlying22 (J.ev Y)) fun a J=> dv J Y Y Y Y (fun w=> R.geq (J.ev Y) (J.ev Y)) fun a J=> d0 <| then_n (hK3 _ _ <| cD J Y (fun c1=> ?_) (fun c1=> ?_))
 ·refine wp_seq_k fun K4 hK4=> wp_region_lit <| av J Y Y fun a J=> s0 <| then_n (hK4 _ _ <| wp_ret (then_r (hR _ _ _ _ _ J (run_results Tryz.results51 (.t J Y (.nil))) ?_)))
  rw [stp_end (by omega)]
  exact ⟨_, s2, Y, ⟨Y, by decide, [], s2, Y, hH⟩, G.one (.t (.t .h))⟩
 have hp : V.p < F.code.length := by omega
 have hs0 := hval hp
 have h28 := size_28 hs0
 obtain ⟨nm, hrow⟩ := row_at h28
 have htd : takesN (cAt F.code V.p) ≤ deepN F.code V.p := deep_le
 have hsm := take_small _ h28; have hb1 := cAt_lt hK.byt (V.p + 1); have hb0 := cAt_lt hK.byt V.p; have hlen := hK.len; have hsz := (sizeN_le F.code V.p).resolve_left hs0
 refine wp_skip <| then_n (hK2 _ _ <| wp_seq_k fun K5 hK5=> wp_drawG G (G.sel [0] Y Y) [(0, 0), (1, 0), (2, 0), (3, 0), (4, 1), (5, 0), (6, 0), (7, 0), (8, 1), (9, 0), (10, 1), (11, 0), (12, 0), (13, 1), (14, 2), (15, 3)] mix (by kernel_rfl) (hP.then) fun w G hD=> ?_)
 refine dm J Y Y Y fun a J=> dm J Y Y Y fun a J=> dv J Y Y Y Y (fun w=> R.nilCheck (J.ev Y)) fun a J=> dv J Y Y Y Y (fun w=> R.fieldAddr (k := 0) Tryz.underlying103 Y nz22 (J.ev Y) Y) fun a J=> ds J Y Y Y Y hD (fun w hD=> R.load one22 (J.ev Y) hD .h (Y)) fun a J=> ?_
 refine dm J Y Y Y fun a J=> dv J Y Y Y Y (fun w=> R.nilCheck (J.ev Y)) fun a J=> dv J Y Y Y Y (fun w=> R.fieldAddr (k := 52) Tryz.underlying103 Y nz3 (J.ev Y) Y) fun a J=> ds J Y Y Y Y hD (fun w hD=> R.load one3 (J.ev Y) hD .h (Y)) fun a J=> ?_
 refine dv J Y Y Y Y (fun w=> R.indexO Tryz.underlying22 sz5 (J.ev Y) (Rd.ne (hD'.code.old G) (by rw [length_byts]; omega)) (J.ev Y) (by omega) (by omega)) fun a J=> ds J Y Y Y Y hD (fun w hD=> R.loadO one5 (J.ev Y) (hD'.code.old hD) (cb_at (i := V.p) (by omega) (by omega))) fun a J=> ?_
 refine dv J Y Y Y Y (fun w=> R.nilCheck (J.ev Y)) fun a J=> dv J Y Y Y Y (fun w=> R.indexA Tryz.underlying73 sz72 (J.ev Y) (J.ev Y) (by omega) (by omega)) fun a J=> ds J Y Y Y Y hD (fun w hD=> R.loadAP (cs := rowC nm (cAt F.code V.p)) (xs := tabL) agg72 (J.ev Y) (hT.old hD) sz72 Y (Nat.succ_pos _) (hrow _ (by omega))) fun a J=> ?_
 refine dl Y (wn Y) (O.alloc Y Y J ze72 Y G fun b5 a w J G=> ⟨fun hD=> G.sel [1] Y Y, ?_⟩)
 have hD := G.sel [1] rfl rfl
 refine dw Y (wn Y) (O.storeW sz72 (J.ev Y) (J.ev Y) (Y) Y (one_row _ _) G .h (Y) fun w G=> ?_)
 refine d0 <| then_n (hK5 _ _ <| wp_seq_k fun K6 hK6=> wp_seq_k fun K7 hK7=> wp_drawS G [(0, 0), (1, 1), (2, 0), (3, 0), (4, 0), (5, 1), (6, 0)] mix (by kernel_rfl) (hP.then.then) fun w G=> ?_)
 have hD := G
 refine dv J Y Y Y Y (fun w=> R.fieldAddr (k := 1) Tryz.underlying72 Y nz3 (J.ev Y) Y) fun a J=> ds J Y Y Y Y hD (fun w hD=> R.load one3 (J.ev Y) hD .h (Y)) fun a J=> ?_
 refine dm J Y Y Y fun a J=> dv J Y Y Y Y (fun w=> R.nilCheck (J.ev Y)) fun a J=> dv J Y Y Y Y (fun w=> R.fieldAddr (k := 51) Tryz.underlying103 Y nz3 (J.ev Y) Y) fun a J=> ds J Y Y Y Y hD (fun w hD=> R.load one3 (J.ev Y) hD (.t .h) (Y)) fun a J=> ?_
 refine dv J Y Y Y Y (fun w=> R.gtr (J.ev Y) (J.ev Y)) fun a J=> d0 <| then_n (hK7 _ _ <| cD J Y (fun c2=> ?_) (fun c2=> ?_))
 ·refine wp_seq_k fun K8 hK8=> wp_region_lit <| av J Y Y fun a J=> s0 <| then_n (hK8 _ _ <| wp_ret (then_r (hR _ _ _ _ _ J (run_results Tryz.results51 (.t J Y (.nil))) ?_)))
  rw [stp_gas hp (by omega)]
  exact ⟨_, s2, Y, ⟨Y, by decide, [], s2, Y, hH⟩, G.one (.t (.t (.t .h)))⟩
 refine wp_skip <| then_n (hK6 _ _ <| wp_seq_k fun K9 hK9=> wp_drawS G [(0, 0), (1, 0), (2, 0), (3, 1), (4, 0), (5, 1), (6, 0), (7, 0), (8, 0), (9, 3)] mix (by kernel_rfl) (hP.then) fun w G=> ?_)
 have hD := G
 refine dm J Y Y Y fun a J=> dv J Y Y Y Y (fun w=> R.nilCheck (J.ev Y)) fun a J=> dv J Y Y Y Y (fun w=> R.fieldAddr (k := 51) Tryz.underlying103 Y nz3 (J.ev Y) Y) fun a J=> ds J Y Y Y Y hD (fun w hD=> R.load one3 (J.ev Y) hD (.t .h) (Y)) fun a J=> ?_
 refine dv J Y Y Y Y (fun w=> R.fieldAddr (k := 1) Tryz.underlying72 Y nz3 (J.ev Y) Y) fun a J=> ds J Y Y Y Y hD (fun w hD=> R.load one3 (J.ev Y) hD .h (Y)) fun a J=> ?_
 refine dv J Y Y Y Y (fun w=> R.as (u := .int .i64 ((V.left - priceN (cAt F.code V.p) : Nat) : Int)) (R.subI (J.ev Y) (J.ev Y) (by omega)) (congrArg (Value.int .i64) (by omega))) fun a J=> dv J Y Y Y Y (fun w=> R.nilCheck (J.ev Y)) fun a J=> dv J Y Y Y Y (fun w=> R.fieldAddr (k := 51) Tryz.underlying103 Y nz3 (J.ev Y) Y) fun a J=> ?_
 refine dw Y (wn Y) (O.store sz3 (J.ev Y) (J.ev Y) Y Y G (.t .h) (show List.set _ _ _ = rcells F (.slice A stk.length c) { V with left := V.left - priceN (cAt F.code V.p) } from Y) (by first | decide | omega | (show _ < 59; decide) | (show _ < 3; decide) | simp) fun w G=> ?_)
 refine d0 <| then_n (hK9 _ _ <| wp_seq_k fun K10 hK10=> wp_region_lit <| sw J Y Y Y (R.fieldAddr (k := 2) Tryz.underlying72 Y nz3 (J.ev Y) Y) fun a J=> sw J Y Y Y (R.load one3 (J.ev Y) G .h (Y)) fun a J=> av J Y Y fun a J=> s0 <| then_n (hK10 _ _ <| wp_seq_k fun K11 hK11=> ?_))
 have hK11' : ∀ a w, (∃ (dp : Nat), Fr 141 [(0, .pointer (some ⟨F.rb, 0, none⟩)), (1, .pointer (some ⟨tb, 0, none⟩)), (5, .pointer (some ⟨b5, 0, none⟩)), (6, .int .i64 ((dp : Nat) : Int))] a ∧ St w0 ((s1 ++ s2).map (·.1)) [[(F.rb, Cel (rcells F (.slice A stk.length c) { V with left := V.left - priceN (cAt F.code V.p) }) 103)], sg, [(b5, Cel (rowC nm (cAt F.code V.p)) 72)], s2] w ∧ (dp = deepN F.code V.p)) → K11 a w := by
  rintro a w ⟨dp, J, G, hdp⟩
  refine hK11 _ _ ?_
  refine wp_seq_k fun K12 hK12=> wp_seq_k fun K13 hK13=> ?_
  have hK13' : ∀ a w, (Fr 141 [(0, .pointer (some ⟨F.rb, 0, none⟩)), (1, .pointer (some ⟨tb, 0, none⟩)), (5, .pointer (some ⟨b5, 0, none⟩)), (91, .bool (decide (stk.length < dp ∨ 64 < stk.length - takesN (cAt F.code V.p) + laysN (cAt F.code V.p))))] a ∧ St w0 ((s1 ++ s2).map (·.1)) [[(F.rb, Cel (rcells F (.slice A stk.length c) { V with left := V.left - priceN (cAt F.code V.p) }) 103)], sg, [(b5, Cel (rowC nm (cAt F.code V.p)) 72)], s2] w) → K13 a w := by
   rintro a w ⟨J, G⟩
   refine hK13 _ _ ?_
   refine cD J Y (fun c4=> ?_) (fun c4=> ?_)
   ·refine wp_seq_k fun K14 hK14=> wp_region_lit <| av J Y Y fun a J=> s0 <| then_n (hK14 _ _ <| wp_ret (then_r (hR _ _ _ _ _ J (run_results Tryz.results51 (.t J Y (.nil))) ?_)))
    rw [stp_stack hp (by omega) (by rw [← hdp]; omega)]
    exact ⟨_, s2, Y, ⟨Y, by decide, [], s2, Y, hH⟩, G.one (.t (.t (.t .h)))⟩
   refine wp_skip <| then_n (hK12 _ _ <| wp_seq_k fun K15 hK15=> wp_drawS G [(0, 0), (1, 0), (2, 0), (3, 1), (4, 0), (5, 0), (6, 1), (7, 0), (8, 0)] mix (by kernel_rfl) (hP.then) fun w G=> ?_)
   have hD := G
   refine dm J Y Y Y fun a J=> dv J Y Y Y Y (fun w=> R.nilCheck (J.ev Y)) fun a J=> dv J Y Y Y Y (fun w=> R.fieldAddr (k := 50) Tryz.underlying103 Y nz33 (J.ev Y) Y) fun a J=> ds J Y Y Y Y hD (fun w hD=> R.load one33 (J.ev Y) hD .h (Y)) fun a J=> ?_
   refine dv J Y Y Y Y (fun w=> R.len Tryz.underlying33 (J.ev Y)) fun a J=> dv J Y Y Y Y (fun w=> R.fieldAddr (k := 2) Tryz.underlying72 Y nz3 (J.ev Y) Y) fun a J=> ds J Y Y Y Y hD (fun w hD=> R.load one3 (J.ev Y) hD (.t (.t .h)) (Y)) fun a J=> ?_
   refine dv J Y Y Y Y (fun w=> R.as (u := .int .i64 ((stk.length - takesN (cAt F.code V.p) : Nat) : Int)) (R.subI (J.ev Y) (J.ev Y) (by omega)) (congrArg (Value.int .i64) (by omega))) fun a J=> da J Y Y Y fun a J=> d0 <| then_n (hK15 _ _ <| wp_seq_k fun K16 hK16=> wp_region_lit <| so (wn Y) (O.alloc Y Y J ze100b Y G fun b9 a w J G=> ?_))
   refine s0 <| then_n (hK16 _ _ <| wp_seq_k fun K17 hK17=> wp_drawG G (G.sel [1] Y Y) [(0, 0), (1, 0), (2, 0), (3, 0), (4, 1), (5, 0), (6, 0), (7, 2)] mix (by kernel_rfl) (hP.then) fun w G hD=> ?_)
   refine dv J Y Y Y Y (fun w=> R.sliceAll Tryz.underlying140 sz32 (J.ev Y)) fun a J=> dm J Y Y Y fun a J=> dv J Y Y Y Y (fun w=> R.nilCheck (J.ev Y)) fun a J=> dv J Y Y Y Y (fun w=> R.fieldAddr (k := 50) Tryz.underlying103 Y nz33 (J.ev Y) Y) fun a J=> ds J Y Y Y Y hD (fun w hD=> R.load one33 (J.ev Y) hD .h (Y)) fun a J=> ?_
   refine dm J Y Y Y fun a J=> dv J Y Y Y Y (fun w=> R.sliceLo (p := (stk.length - takesN (cAt F.code V.p))) Tryz.underlying33 (J.ev Y) (J.ev Y) (by omega) sz32) fun a J=> dl Y (wn Y) (O.copyAt (o := 0) (cs := (stk.drop (stk.length - takesN (cAt F.code V.p))).flatMap wc) Y Y J Tryz.underlying33 sz32 (J.ev Y) (J.ev Y) G (rd_drop (hO.rd G (.t (.t .h))) hO.2.1 (stk.length - takesN (cAt F.code V.p))) (by rw [wcs_length, List.length_drop]) (by decide) (wcs_one _) .h (spl_top (by omega) (by omega)) (by rw [List.length_replicate]; omega) fun a w J G=> ⟨fun hD=> G.sel [1] Y Y, ?_⟩)
   have hD := G.sel [1] rfl rfl
   refine d0 <| then_n (hK17 _ _ <| wp_seq_k fun K18 hK18=> wp_region_lit <| mv J Y Y fun a J=> mv J Y Y fun a J=> sw J Y Y Y (R.nilCheck (J.ev Y)) fun a J=> sw J Y Y Y (R.fieldAddr (k := 50) Tryz.underlying103 Y nz33 (J.ev Y) Y) fun a J=> sw J Y Y Y (R.load one33 (J.ev Y) G (.t .h) (Y)) fun a J=> mv J Y Y fun a J=> sw J Y Y Y (R.as (u := .slice A (stk.length - takesN (cAt F.code V.p)) c) (R.sliceHi Tryz.underlying33 (J.ev Y) (J.ev Y) (by omega) (by have := hO.2.1; omega) _ sz32) (congrArg (fun z=> Value.slice A z c) (by omega))) fun a J=> sw J Y Y Y (R.nilCheck (J.ev Y)) fun a J=> sw J Y Y Y (R.fieldAddr (k := 50) Tryz.underlying103 Y nz33 (J.ev Y) Y) fun a J=> ?_)
   refine so (wn Y) (O.store sz33 (J.ev Y) (J.ev Y) Y Y G (.t .h) (show List.set _ _ _ = rcells F (.slice A (stk.length - takesN (cAt F.code V.p)) c) { V with left := V.left - priceN (cAt F.code V.p) } from Y) (by first | decide | omega | (show _ < 59; decide) | (show _ < 3; decide) | simp) fun w G=> ?_)
   refine s0 <| then_n (hK18 _ _ <| wp_seq_k fun K19 hK19=> wp_drawS G [(0, 0), (1, 0), (2, 0), (3, 0), (4, 1), (5, 0), (6, 0), (7, 0), (8, 1), (9, 0), (10, 0), (11, 0), (12, 1), (13, 2), (14, 0), (15, 0), (16, 0), (17, 3)] mix (by kernel_rfl) (hP.then) fun w G=> ?_)
   have hD := G
   refine dm J Y Y Y fun a J=> dm J Y Y Y fun a J=> dv J Y Y Y Y (fun w=> R.nilCheck (J.ev Y)) fun a J=> dv J Y Y Y Y (fun w=> R.fieldAddr (k := 52) Tryz.underlying103 Y nz3 (J.ev Y) Y) fun a J=> ds J Y Y Y Y hD (fun w hD=> R.load one3 (J.ev Y) hD (.t .h) (Y)) fun a J=> ?_
   dsimp only at J
   refine dm J Y Y Y fun a J=> dv J Y Y Y Y (fun w=> R.nilCheck (J.ev Y)) fun a J=> dv J Y Y Y Y (fun w=> R.fieldAddr (k := 0) Tryz.underlying103 Y nz22 (J.ev Y) Y) fun a J=> ds J Y Y Y Y hD (fun w hD=> R.load one22 (J.ev Y) hD (.t .h) (Y)) fun a J=> ?_
   refine dm J Y Y Y fun a J=> dv J Y Y Y Y (fun w=> R.nilCheck (J.ev Y)) fun a J=> dv J Y Y Y Y (fun w=> R.fieldAddr (k := 52) Tryz.underlying103 Y nz3 (J.ev Y) Y) fun a J=> ds J Y Y Y Y hD (fun w hD=> R.load one3 (J.ev Y) hD (.t .h) (Y)) fun a J=> ?_
   dsimp only at J
   refine dl Y (wn Y) (O.call Y Y J ent31 (J.evs Y) G (size_calls F.cA F.code.length F.cc F.code V.p _ (hD'.code.old G) Y hK.cap hK.cap2 hK.byt (by omega)) fun v s130 a w hR J G=> ⟨fun hD=> G.tail, ?_⟩)
   obtain ⟨rfl, rfl⟩ := hR
   have hD := G.tail
   refine dv J Y Y Y Y (fun w=> R.addI (J.ev Y) (J.ev Y) (by omega)) fun a J=> dv J Y Y Y Y (fun w=> R.nilCheck (J.ev Y)) fun a J=> dv J Y Y Y Y (fun w=> R.fieldAddr (k := 53) Tryz.underlying103 Y nz3 (J.ev Y) Y) fun a J=> ?_
   refine dw Y (wn Y) (O.store sz3 (J.ev Y) (J.ev Y) Y Y G (.t (.t .h)) (show List.set _ _ _ = rcells F (.slice A (stk.length - takesN (cAt F.code V.p)) c) { V with left := V.left - priceN (cAt F.code V.p), next := V.p + sizeN F.code V.p } from Y) (by first | decide | omega | (show _ < 59; decide) | (show _ < 3; decide) | simp) fun w G=> ?_)
   refine d0 <| then_n (hK19 _ _ <| wp_seq_k fun K20 hK20=> wp_drawG G (G.sel [4] Y Y) [(0, 0), (1, 1), (2, 0), (3, 0), (4, 1), (5, 0), (6, 2), (7, 0)] mix (by kernel_rfl) (hP.then) fun w G hD=> ?_)
   refine dv J Y Y Y Y (fun w=> R.fieldAddr (k := 4) Tryz.underlying72 Y nz70 (J.ev Y) Y) fun a J=> ds J Y Y Y Y hD (fun w hD=> R.load one70 (J.ev Y) hD .h (Y)) fun a J=> ?_
   refine dm J Y Y Y fun a J=> dv J Y Y Y Y (fun w=> R.fieldAddr (k := 2) Tryz.underlying72 Y nz3 (J.ev Y) Y) fun a J=> ds J Y Y Y Y hD (fun w hD=> R.load one3 (J.ev Y) hD .h (Y)) fun a J=> ?_
   refine dv J Y Y Y Y (fun w=> R.as (u := .slice (some ⟨b9, 0, none⟩) (takesN (cAt F.code V.p)) 3) (R.sliceArr Tryz.underlying140 sz32 (J.ev Y) (J.ev Y) (by omega) (by omega)) (congrArg (fun z=> Value.slice (some ⟨b9, 0, none⟩) z 3) (by omega))) fun a J=> ?_
   have G := (G.sel [4, 1, 2, 3, 5] rfl rfl).flat (bs' := [[(b5, Cel (rowC nm (cAt F.code V.p)) 72)], [(b9, Cel (vc (fun i => stk.getD ((stk.length - takesN (cAt F.code V.p)) + i) 0)) 140)], ((F.rb, Cel (rcells F (.slice A (stk.length - takesN (cAt F.code V.p)) c) { V with left := V.left - priceN (cAt F.code V.p), next := V.p + sizeN F.code V.p }) 103) :: sg) ++ s2]) (by simp [selS])
   refine dl Y (wn Y) (O.callV Y Y J (J.ev Y) (entC h28) (J.evs Y) G (op_does _ F { V with left := V.left - priceN (cAt F.code V.p), next := V.p + sizeN F.code V.p } (stk.take (stk.length - takesN (cAt F.code V.p))) asks ((F.rb, Cel (rcells F (.slice A (stk.length - takesN (cAt F.code V.p)) c) { V with left := V.left - priceN (cAt F.code V.p), next := V.p + sizeN F.code V.p }) 103) :: sg) s2 b9 _ _ hNX hK Y h28 hp hs0 Y (by show V.left - _ ≤ 10000; omega) (fun h45=> by (have := take_45 h45; have hdd : deepN F.code V.p = cAt F.code (V.p + 1) + 1 := if_pos h45; rw [List.length_take]; show cAt F.code (V.p + 1) < _; omega)) ⟨A, c, sg, by rw [List.length_take, Nat.min_eq_left (by omega)], by (rw [List.length_take, Nat.min_eq_left (by omega)]; have := hO.take (k := (stk.length - takesN (cAt F.code V.p))) (by omega); rw [wcs_take] at this; exact this)⟩ hH (G.own1 (.t (.t .h))) (RdK.apart (G.sel [1, 2] Y Y) (Rd.own0 G (.t .h)) (List.mem_singleton.2 Y)) (fun i=> allW_getD hW _) (hD'.down G (.t (.t .h))) (by rw [List.length_take]; omega) hla) (fun _=> (.t (.t .h))) fun v s140 a w hR9 J G=> ⟨fun hD=> G.sel [0] Y Y, ?_⟩)
   have hD := G.sel [0] rfl rfl
   refine da J Y Y Y fun a J=> d0 <| then_n (hK20 _ _ <| wp_ret (hR _ _ _ _ _ J (run_results Tryz.results51 (.t J Y (.nil))) ?_))
   rw [stp_do hp (by omega) (by rw [← hdp]; omega)]
   exact ⟨_, s140, Y, did_did hR9 Y Y, G.one (.t (.t .h))⟩
  refine wp_drawS G [(0, 0), (1, 0), (2, 0), (3, 1), (4, 0), (5, 0), (6, 0), (7, 0), (8, 0), (9, 0), (10, 0), (11, 1), (12, 0), (13, 0), (14, 1), (15, 0), (16, 0), (17, 1), (18, 0), (19, 0), (20, 0)] mix (by kernel_rfl) (hP.then.then) fun w G=> ?_
  have hD := G
  refine dm J Y Y Y fun a J=> dv J Y Y Y Y (fun w=> R.nilCheck (J.ev Y)) fun a J=> dv J Y Y Y Y (fun w=> R.fieldAddr (k := 50) Tryz.underlying103 Y nz33 (J.ev Y) Y) fun a J=> ds J Y Y Y Y hD (fun w hD=> R.load one33 (J.ev Y) hD .h (Y)) fun a J=> ?_
  refine dv J Y Y Y Y (fun w=> R.len Tryz.underlying33 (J.ev Y)) fun a J=> dm J Y Y Y fun a J=> dv J Y Y Y Y (fun w=> R.lss (J.ev Y) (J.ev Y)) fun a J=> dm J Y Y Y fun a J=> J.splitD (t := 78) Y (fun h78 J=> ?_) (fun h78 J=> ?_)
  ·refine dk J Y (ws J Y Y Y Y) Y Y fun a J=> dk J Y (ws J Y Y Y Y) Y Y fun a J=> dk J Y (ws J Y Y Y Y) Y Y fun a J=> dk1 J Y (ws J Y Y Y Y) Y Y hD fun a J=> ?_
   refine dk J Y (ws J Y Y Y Y) Y Y fun a J=> dk J Y (ws J Y Y Y Y) Y Y fun a J=> dk1 J Y (ws J Y Y Y Y) Y Y hD fun a J=> ?_
   refine dk J Y (ws J Y Y Y Y) Y Y fun a J=> dk J Y (ws J Y Y Y Y) Y Y fun a J=> dk1 J Y (ws J Y Y Y Y) Y Y hD fun a J=> ?_
   refine dk J Y (ws J Y Y Y Y) Y Y fun a J=> dk J Y (ws J Y Y Y Y) Y Y fun a J=> dv J Y Y Y Y (fun w=> R.pickT (J.ev Y) (J.ev Y)) fun a J=> d0 ?_
   exact then_n (hK13' _ _ ⟨J.sub ⟨Y, Y, Y, (congrArg (fun z => some (Value.bool z)) (by first | exact (decide_eq_true (by omega)).symm | exact (decide_eq_false (by omega)).symm | exact decide_eq_decide.2 (by omega))), trivial⟩, G.sel [0, 1, 2, 3] Y Y⟩)
  refine dq J Y (wy J Y Y Y) Y Y (fun w=> R.move (J.ev Y)) fun a J=> dq J Y (wy J Y Y Y) Y Y (fun w=> R.nilCheck (J.ev Y)) fun a J=> dq J Y (wy J Y Y Y) Y Y (fun w=> R.fieldAddr (k := 50) Tryz.underlying103 Y nz33 (J.ev Y) Y) fun a J=> dr J Y (wy J Y Y Y) Y Y hD (fun w hD=> R.load one33 (J.ev Y) hD .h (Y)) fun a J=> ?_
  refine dq J Y (wy J Y Y Y) Y Y (fun w=> R.len Tryz.underlying33 (J.ev Y)) fun a J=> dq J Y (wy J Y Y Y) Y Y (fun w=> R.fieldAddr (k := 2) Tryz.underlying72 Y nz3 (J.ev Y) Y) fun a J=> dr J Y (wy J Y Y Y) Y Y hD (fun w hD=> R.load one3 (J.ev Y) hD (.t (.t .h)) (Y)) fun a J=> ?_
  refine dq J Y (wy J Y Y Y) Y Y (fun w=> R.subI (J.ev Y) (J.ev Y) (by omega)) fun a J=> dq J Y (wy J Y Y Y) Y Y (fun w=> R.fieldAddr (k := 3) Tryz.underlying72 Y nz3 (J.ev Y) Y) fun a J=> dr J Y (wy J Y Y Y) Y Y hD (fun w hD=> R.load one3 (J.ev Y) hD (.t (.t .h)) (Y)) fun a J=> ?_
  refine dq J Y (wy J Y Y Y) Y Y (fun w=> R.addI (J.ev Y) (J.ev Y) (by omega)) fun a J=> dq J Y (wy J Y Y Y) Y Y (fun w=> R.gtr (J.ev Y) (J.ev Y)) fun a J=> dv J Y Y Y Y (fun w=> R.pickF (J.ev Y) (J.ev Y)) fun a J=> d0 ?_
  exact then_n (hK13' _ _ ⟨J.sub ⟨Y, Y, Y, (congrArg (fun z => some (Value.bool z)) (by first | exact (decide_eq_true (by omega)).symm | exact (decide_eq_false (by omega)).symm | exact decide_eq_decide.2 (by omega))), trivial⟩, G.sel [0, 1, 2, 3] Y Y⟩)
 refine wp_seq_k fun K21 hK21=> wp_drawS G [(0, 0), (1, 0), (2, 0), (3, 1), (4, 0), (5, 0), (6, 0), (7, 1), (8, 0), (9, 1), (10, 0)] mix (by kernel_rfl) (hP.then.then) fun w G=> ?_
 have hD := G
 refine dm J Y Y Y fun a J=> dv J Y Y Y Y (fun w=> R.nilCheck (J.ev Y)) fun a J=> dv J Y Y Y Y (fun w=> R.fieldAddr (k := 0) Tryz.underlying103 Y nz22 (J.ev Y) Y) fun a J=> ds J Y Y Y Y hD (fun w hD=> R.load one22 (J.ev Y) hD (.t .h) (Y)) fun a J=> ?_
 refine dm J Y Y Y fun a J=> dv J Y Y Y Y (fun w=> R.nilCheck (J.ev Y)) fun a J=> dv J Y Y Y Y (fun w=> R.fieldAddr (k := 52) Tryz.underlying103 Y nz3 (J.ev Y) Y) fun a J=> ds J Y Y Y Y hD (fun w hD=> R.load one3 (J.ev Y) hD (.t .h) (Y)) fun a J=> ?_
 dsimp only at J
 refine dv J Y Y Y Y (fun w=> R.indexO Tryz.underlying22 sz5 (J.ev Y) (Rd.ne (hD'.code.old G) (by rw [length_byts]; omega)) (J.ev Y) (by omega) (by omega)) fun a J=> ds J Y Y Y Y hD (fun w hD=> R.loadO one5 (J.ev Y) (hD'.code.old hD) (cb_at (i := V.p) (by omega) (by omega))) fun a J=> ?_
 refine da J Y Y Y fun a J=> d0 <| then_n (hK21 _ _ <| wp_seq_k fun K22 hK22=> wp_region_lit <| mv J Y Y fun a J=> eL J Y Y Y fun a J=> mv J Y Y fun a J=> J.splitD (t := 64) Y (fun h64 J=> ?_) (fun h64 J=> ?_))
 ·refine kz J Y Y Y Y Y Y fun a J=> kz J Y Y Y Y Y Y fun a J=> pT J Y Y Y fun a J=> s0 <| then_n (hK22 _ _ <| cT J Y <| wp_region_lit <| mv J Y Y fun a J=> so (wn Y) (O.call Y Y J ent101 (J.evs Y) G (operand_calls F { V with left := V.left - priceN (cAt F.code V.p) } _ _ (Rd.own0 G (.t .h)) (hD'.code.old G) hK.byt hK.len (size_2 (p := V.p) hs0 (by omega))) fun v s69 a w hR J G=> ?_))
  obtain ⟨rfl, rfl⟩ := hR
  dsimp only at J
  refine aI J Y Y Y (by omega) fun a J=> av J Y Y fun a J=> s0 ?_
  exact then_n (hK11' _ _ ⟨cAt F.code (V.p + 1) + 1, J.sub ⟨Y, Y, Y, (congrArg (fun z => some (Value.int .i64 z)) (by omega)), trivial⟩, G.sel [2, 3, 1, 4] Y Y, (if_pos (by omega)).symm⟩)
 refine my J Y Y Y Y fun a J=> sv' J (wy J Y Y Y) Y Y (R.eql (J.ev Y) (J.ev Y)) fun a J=> pF J Y Y Y fun a J=> s0 <| then_n (hK22 _ _ <| cD J Y (fun c3=> ?_) (fun c3=> ?_))
 ·refine wp_region_lit <| mv J Y Y fun a J=> so (wn Y) (O.call Y Y J ent101 (J.evs Y) G (operand_calls F { V with left := V.left - priceN (cAt F.code V.p) } _ _ (Rd.own0 G (.t .h)) (hD'.code.old G) hK.byt hK.len (size_2 (p := V.p) hs0 (by omega))) fun v s69 a w hR J G=> ?_)
  obtain ⟨rfl, rfl⟩ := hR
  dsimp only at J
  refine aI J Y Y Y (by omega) fun a J=> av J Y Y fun a J=> s0 ?_
  exact then_n (hK11' _ _ ⟨cAt F.code (V.p + 1) + 1, J.sub ⟨Y, Y, Y, (congrArg (fun z => some (Value.int .i64 z)) (by omega)), trivial⟩, G.sel [2, 3, 1, 4] Y Y, (if_pos (by omega)).symm⟩)
 refine wp_skip ?_
 exact then_n (hK11' _ _ ⟨takesN (cAt F.code V.p), J.sub ⟨Y, Y, Y, (congrArg (fun z => some (Value.int .i64 z)) (by omega)), trivial⟩, G.sel [1, 2, 0, 3] Y Y, (if_neg (by omega)).symm⟩)
end Go.Proofs.YtlapmbkfmbkdoaaGreatDoor
end
section
namespace Go.Proofs.YtlapmbkfmbkdoaaGreatDoor
open Go Go.Fw Go.RowKit
attribute [local irreducible] Go.Oper.wp Go.Code.wp Go.wpList Go.Fw.WL Go.Calls
theorem R.ifaceNil {P : Program} {w : World} {ρ : Operand → Value} {dst : Option Tmp} {ty : TypeId} {pos : String} {af : Array Edge} {g : Option (Nat × Bool)} {x y : Operand} {T T' t : TypeId} {u : Value} {ms : Array (String × TypeId)} (hT : P.underlying T = some (.interface ms)) (hx : ρ x = .iface t u) (hy : ρ y = .nilIface) :
    (execOp ρ ⟨dst, .binOp .eql T x y T', ty, pos, af, g⟩).run P w = .ok (.value (.bool false)) w := by
  have e : ∀ d, (Op.equalIn (d + 1) T (.iface t u) .nilIface).run P w = .ok false w := fun d => by simp [Op.equalIn, run_underlying hT, Sem.run_bind]
  have e2 : (Op.equal T (.iface t u) .nilIface).run P w = .ok false w := e (Op.maxDepth - 1)
  simp only [execOp, hx, hy, eqGuard, binOp, Sem.run_bind, e2, Sem.run_pure, Result.andThen_ok]
  simp [e2, Sem.run_bind]
structure Fx.Ok0 (F : Fx) : Prop where
  byt : Byt F.code
  cap : F.code.length ≤ F.cc
  cap2 : F.cc ≤ 9223372036854775807
  argsW : AllW F.cl.args
  acap : F.cl.args.length ≤ F.ac
  acap2 : F.ac ≤ 9223372036854775807
  self : ∀ i, F.cl.self i < 256
  caller : ∀ i, F.cl.caller i < 256
  amount : F.cl.amount < 115792089237316195423570985008687907853269984665640564039457584007913129639936
  reps : ∀ r ∈ F.reps, r.1 < 115792089237316195423570985008687907853269984665640564039457584007913129639936
  qlen : F.reps.length ≤ 9223372036854775807
theorem chk_len2 {xs : List Nat} (h : chkN xs = true) : xs.length ≤ 1024 := by
  unfold chkN at h
  simp only [Bool.and_eq_true, decide_eq_true_eq] at h
  exact h.1.2
theorem ok_of {F : Fx} (h : Fx.Ok0 F) (h1 : chkN F.code = true) (h2 : callOk F.cl = true) : F.Ok := ⟨chk_len2 h1, h.byt, h.cap, h.cap2, h1, h2, h.argsW, h.acap, h.acap2, h.self, h.caller, h.amount, h.reps, h.qlen⟩
def CallP (cl : Cl) : Prop := 0 ≤ cl.token ∧ cl.token < 64 ∧ cl.args.length ≤ 8 ∧ 0 ≤ cl.time ∧ cl.time ≤ 4611686018427387904 ∧ 1 ≤ cl.gas ∧ cl.gas ≤ 10000
theorem callOk_iff {cl : Cl} : callOk cl = true ↔ CallP cl := by simp [callOk, CallP, and_assoc]
theorem cb_true {cl : Cl} (h : ¬ (0 ≤ cl.token ∧ cl.token < 64 ∧ cl.args.length ≤ 8 ∧ 0 ≤ cl.time ∧ cl.time ≤ 4611686018427387904 ∧ 1 ≤ cl.gas ∧ cl.gas ≤ 10000)) : some (Value.bool true) = some (.bool (!callOk cl)) := by
  cases hc : callOk cl with
  | false => rfl
  | true => exact absurd (callOk_iff.1 hc) h
theorem cb_dec {cl : Cl} {p : Prop} [Decidable p] (h : p ↔ ¬ (0 ≤ cl.token ∧ cl.token < 64 ∧ cl.args.length ≤ 8 ∧ 0 ≤ cl.time ∧ cl.time ≤ 4611686018427387904 ∧ 1 ≤ cl.gas ∧ cl.gas ≤ 10000)) : some (Value.bool (decide p)) = some (.bool (!callOk cl)) := by
  cases hc : callOk cl with
  | false => rw [decide_eq_true (h.2 fun h2 => by rw [callOk_iff.2 h2] at hc; exact absurd hc (by decide))]; rfl
  | true => rw [decide_eq_false fun h2 => h.1 h2 (callOk_iff.1 hc)]; rfl
def errO : Out → Int | .err e _ => e | _ => 0
def asksO : Out → List Fw.Ask | .more _ _ _ a => a | .fin _ _ a => a | .err _ a => a
def finO : Out → Bool | .fin _ _ _ => true | _ => false
theorem did_go {F : Fx} {V : Vr} {o : Out} {x : Value} {s' : Seg} (h : DidS F V o x s') : x = .int .i64 (errO o) ∧ ∃ s1 s2, s' = s1 ++ s2 ∧ HostS F (asksO o) s2 ∧ ((errO o ≠ 0 ∧ ∃ e a, o = .err e a) ∨ (errO o = 0 ∧ ∃ V' stk', RunS F V' stk' s1 ∧ V'.ended = (V.ended || finO o) ∧
    ((finO o = false ∧ o = .more stk' V'.left V'.next (asksO o) ∧ V'.ended = V.ended ∧ V'.value = V.value) ∨ (finO o = true ∧ o = .fin V'.value V'.left (asksO o))))) := by
  cases o with
  | more stk left p asks =>
    obtain ⟨a, V', s1, s2, b, c, d, rfl, rfl, g, i⟩ := h
    exact ⟨a, s1, s2, b, d, .inr ⟨rfl, V', stk, c, by simp [g, finO], .inl ⟨rfl, rfl, g, i⟩⟩⟩
  | fin val left asks =>
    obtain ⟨a, V', stk, s1, s2, b, c, d, rfl, g, rfl⟩ := h
    exact ⟨a, s1, s2, b, d, .inr ⟨rfl, V', stk, c, by simp [g, finO], .inr ⟨rfl, rfl⟩⟩⟩
  | err e asks =>
    obtain ⟨a, b, s1, s2, c, d⟩ := h
    exact ⟨a, s1, s2, c, d, .inl ⟨b, e, asks, rfl⟩⟩
theorem run_bad (F : Fx) (s2 : Seg) (w0 : World) (h0 : Fx.Ok0 F) (hH : HostS F [] s2) (ho : Own w0 s2) (hD' : F.Rds w0 (s2.map (·.1))) (hc : chkN F.code = false) : Ret Tryz.prog 13 [.slice F.cA F.code.length F.cc, .agg (callc F).toArray, .iface 40 (.pointer (some ⟨F.hb, 0, none⟩))] w0 (s2.map (·.1)) (fun x s' => x = .tuple #[.agg (wc (0) ++ [Value.int .i64 (0)]).toArray, .int .i64 (100)] ∧ HostS F ([]) s') := by
 refine fn_start Tryz.func13 Y Tryz.ntmps13 Y [(0, .slice F.cA F.code.length F.cc), (1, .agg (callc F).toArray), (2, .iface 40 (.pointer (some ⟨F.hb, 0, none⟩)))] ⟨Y, Y, Y, trivial⟩ ?_
 intro Q a hP J hR hN
 have G := St.enter ho
 refine wp_seq_k fun K1 hK1=> wp_region_lit <| so (wn Y) (O.box Y Y J (J.ev Y) Y G fun b4 a w J G=> ?_)
 refine so (wn Y) (O.alloc Y Y J ze45 Y G fun b6 a w J G=> ?_)
 refine av J Y Y fun a J=> s0 <| then_n (hK1 _ _ <| wp_scope_straight <| wp_seq_k fun K2 hK2=> wp_block <| wp_seq_k fun K3 hK3=> wp_region_lit <| mv J Y Y fun a J=> sw J Y Y Y (R.ifaceNil Tryz.underlying100 (J.ev Y) (J.ev Y)) fun a J=> av J Y Y fun a J=> s0 <| then_n (hK3 _ _ <| cF J Y <| wp_seq_k fun K4 hK4=> wp_region_lit <| mv J Y Y fun a J=> so (wn Y) (O.call Y Y J ent14 (J.evs Y) G (check_calls F.cA F.code.length F.cc F.code w (hD'.code.old G) Y h0.cap h0.cap2 h0.byt) fun v s17 a w hR J G=> ?_)))
 obtain ⟨rfl, rfl⟩ := hR
 rw [show chkV F.code = .int .i64 100 from by rw [chkV, hc]; rfl] at J
 refine sw J Y Y Y (R.as (u := .bool true) (R.neq (p := 100) (q := 0) (J.ev Y) (J.ev Y)) (Y)) fun a J=> av J Y Y fun a J=> s0 <| then_n (hK4 _ _ <| cT J Y <| wp_seq_k fun K5 hK5=> wp_region_lit <| sw J Y Y Y (R.buildStr (l := [_, _, _, _, _]) Tryz.underlying45 ze45 pl45 (J.evp Y) Y) fun a J=> so (wn Y) (O.storeW sz45 (J.ev Y) (J.ev Y) (Y) Y (by simp [Value.oneCell']) G (.t .h) (Y) fun w G=> ?_))
 refine av J Y Y fun a J=> s0 <| then_n (hK5 _ _ <| wp_ret (blk_r (then_r (sc_r (hR _ _ _ _ _ J (run_results Tryz.results13 (.cw J Y agg45 G (.t .h) sz45 (Y) (.t J Y (.nil)))) ?_)))))
 exact ⟨_, s2, Y, ⟨Y, hH⟩, G.one (.t (.t (.t .h)))⟩
set_option maxHeartbeats 1000000 in
theorem run_call (F : Fx) (s2 : Seg) (w0 : World) (h0 : Fx.Ok0 F) (hH : HostS F [] s2) (ho : Own w0 s2) (hD' : F.Rds w0 (s2.map (·.1))) (hc : chkN F.code = true) (hcl : callOk F.cl = false) : Ret Tryz.prog 13 [.slice F.cA F.code.length F.cc, .agg (callc F).toArray, .iface 40 (.pointer (some ⟨F.hb, 0, none⟩))] w0 (s2.map (·.1)) (fun x s' => x = .tuple #[.agg (wc (0) ++ [Value.int .i64 (0)]).toArray, .int .i64 (101)] ∧ HostS F ([]) s') := by
 refine fn_start Tryz.func13 Y Tryz.ntmps13 Y [(0, .slice F.cA F.code.length F.cc), (1, .agg (callc F).toArray), (2, .iface 40 (.pointer (some ⟨F.hb, 0, none⟩)))] ⟨Y, Y, Y, trivial⟩ ?_
 intro Q a hP J hR hN
 have G := St.enter ho
 refine wp_seq_k fun K1 hK1=> wp_region_lit <| so (wn Y) (O.box Y Y J (J.ev Y) Y G fun b4 a w J G=> ?_)
 refine so (wn Y) (O.alloc Y Y J ze45 Y G fun b6 a w J G=> ?_)
 refine av J Y Y fun a J=> s0 <| then_n (hK1 _ _ <| wp_scope_straight <| wp_seq_k fun K2 hK2=> wp_block <| wp_seq_k fun K3 hK3=> wp_region_lit <| mv J Y Y fun a J=> sw J Y Y Y (R.ifaceNil Tryz.underlying100 (J.ev Y) (J.ev Y)) fun a J=> av J Y Y fun a J=> s0 <| then_n (hK3 _ _ <| cF J Y <| wp_seq_k fun K4 hK4=> wp_region_lit <| mv J Y Y fun a J=> so (wn Y) (O.call Y Y J ent14 (J.evs Y) G (check_calls F.cA F.code.length F.cc F.code w (hD'.code.old G) Y h0.cap h0.cap2 h0.byt) fun v s17 a w hR J G=> ?_)))
 obtain ⟨rfl, rfl⟩ := hR
 rw [show chkV F.code = .int .i64 0 from by rw [chkV, hc]; rfl] at J
 refine sw J Y Y Y (R.as (u := .bool false) (R.neq (p := 0) (q := 0) (J.ev Y) (J.ev Y)) (Y)) fun a J=> av J Y Y fun a J=> s0 <| then_n (hK4 _ _ <| cF J Y <| wp_seq_k fun K5 hK5=> ?_)
 have hK5' : ∀ a w, (Fr 93 [(0, .slice F.cA F.code.length F.cc), (2, .iface 40 (.pointer (some ⟨F.hb, 0, none⟩))), (4, .pointer (some ⟨b4, 0, none⟩)), (6, .pointer (some ⟨b6, 0, none⟩)), (20, .bool (!callOk F.cl))] a ∧ St w0 (s2.map (·.1)) [[(b4, Cel (callc F) 35)], [(b6, Cel [.int .u64 0, .int .u64 0, .int .u64 0, .int .u64 0, .int .i64 0] 45)], s2] w) → K5 a w := by
  rintro a w ⟨J, G⟩
  refine hK5 _ _ ?_
  refine cS J Y (fun c9=> ?_) (fun c9=> ?_)
  ·refine wp_seq_k fun K6 hK6=> wp_region_lit <| sw J Y Y Y (R.buildStr (l := [_, _, _, _, _]) Tryz.underlying45 ze45 pl45 (J.evp Y) Y) fun a J=> so (wn Y) (O.storeW sz45 (J.ev Y) (J.ev Y) (Y) Y (by simp [Value.oneCell']) G (.t .h) (Y) fun w G=> ?_)
   refine av J Y Y fun a J=> s0 <| then_n (hK6 _ _ <| wp_ret (blk_r (then_r (sc_r (hR _ _ _ _ _ J (run_results Tryz.results13 (.cw J Y agg45 G (.t .h) sz45 (Y) (.t J Y (.nil)))) ?_)))))
   exact ⟨_, s2, Y, ⟨Y, hH⟩, G.one (.t (.t .h))⟩
  rw [hcl] at c9; exact absurd c9 (by decide)
 refine wp_region_lit <| sw J Y Y Y (R.fieldAddr (k := 40) Tryz.underlying35 Y nz3 (J.ev Y) Y) fun a J=> sw J Y Y Y (R.load one3 (J.ev Y) G (.t (.t .h)) (Y)) fun a J=> lS J Y Y Y fun a J=> mv J Y Y fun a J=> J.splitD (t := 24) Y (fun h24 J=> ?_) (fun h24 J=> ?_)
 ·refine kz J Y Y Y Y Y Y fun a J=> kz J Y Y Y Y Y Y fun a J=> kz J Y Y Y Y Y Y fun a J=> pT J Y Y Y fun a J=> mv J Y Y fun a J=> kz J Y Y Y Y Y Y fun a J=> kz J Y Y Y Y Y Y fun a J=> kz J Y Y Y Y Y Y fun a J=> kz J Y Y Y Y Y Y fun a J=> pT J Y Y Y fun a J=> mv J Y Y fun a J=> kz J Y Y Y Y Y Y fun a J=> kz J Y Y Y Y Y Y fun a J=> kz J Y Y Y Y Y Y fun a J=> pT J Y Y Y fun a J=> mv J Y Y fun a J=> kz J Y Y Y Y Y Y fun a J=> kz J Y Y Y Y Y Y fun a J=> kz J Y Y Y Y Y Y fun a J=> pT J Y Y Y fun a J=> mv J Y Y fun a J=> kz J Y Y Y Y Y Y fun a J=> kz J Y Y Y Y Y Y fun a J=> kz J Y Y Y Y Y Y fun a J=> ?_
  refine pT J Y Y Y fun a J=> mv J Y Y fun a J=> kz J Y Y Y Y Y Y fun a J=> kz J Y Y Y Y Y Y fun a J=> kz J Y Y Y Y Y Y fun a J=> pT J Y Y Y fun a J=> av J Y Y fun a J=> s0 ?_
  exact then_n (hK5' _ _ ⟨J.sub ⟨Y, Y, Y, Y, (by first | exact cb_true (by omega) | exact cb_dec (by omega)), trivial⟩, G.sel [2, 1, 3] Y Y⟩)
 refine sv' J (wy J Y Y Y) Y Y (R.fieldAddr (k := 40) Tryz.underlying35 Y nz3 (J.ev Y) Y) fun a J=> sv' J (wy J Y Y Y) Y Y (R.load one3 (J.ev Y) G (.t (.t .h)) (Y)) fun a J=> sv' J (wy J Y Y Y) Y Y (R.geq (J.ev Y) (J.ev Y)) fun a J=> pF J Y Y Y fun a J=> mv J Y Y fun a J=> J.splitD (t := 29) Y (fun h29 J=> ?_) (fun h29 J=> ?_)
 ·refine kz J Y Y Y Y Y Y fun a J=> kz J Y Y Y Y Y Y fun a J=> kz J Y Y Y Y Y Y fun a J=> kz J Y Y Y Y Y Y fun a J=> pT J Y Y Y fun a J=> mv J Y Y fun a J=> kz J Y Y Y Y Y Y fun a J=> kz J Y Y Y Y Y Y fun a J=> kz J Y Y Y Y Y Y fun a J=> pT J Y Y Y fun a J=> mv J Y Y fun a J=> kz J Y Y Y Y Y Y fun a J=> kz J Y Y Y Y Y Y fun a J=> kz J Y Y Y Y Y Y fun a J=> pT J Y Y Y fun a J=> mv J Y Y fun a J=> kz J Y Y Y Y Y Y fun a J=> kz J Y Y Y Y Y Y fun a J=> kz J Y Y Y Y Y Y fun a J=> pT J Y Y Y fun a J=> mv J Y Y fun a J=> kz J Y Y Y Y Y Y fun a J=> kz J Y Y Y Y Y Y fun a J=> kz J Y Y Y Y Y Y fun a J=> ?_
  refine pT J Y Y Y fun a J=> av J Y Y fun a J=> s0 ?_
  exact then_n (hK5' _ _ ⟨J.sub ⟨Y, Y, Y, Y, (by first | exact cb_true (by omega) | exact cb_dec (by omega)), trivial⟩, G.sel [2, 1, 3] Y Y⟩)
 refine sv' J (wy J Y Y Y) Y Y (R.fieldAddr (k := 45) Tryz.underlying35 Y nz33 (J.ev Y) Y) fun a J=> sv' J (wy J Y Y Y) Y Y (R.load one33 (J.ev Y) G (.t (.t .h)) (Y)) fun a J=> sv' J (wy J Y Y Y) Y Y (R.len Tryz.underlying33 (J.ev Y)) fun a J=> sv' J (wy J Y Y Y) Y Y (R.gtr (J.ev Y) (J.ev Y)) fun a J=> pF J Y Y Y fun a J=> mv J Y Y fun a J=> J.splitD (t := 35) Y (fun h35 J=> ?_) (fun h35 J=> ?_)
 ·refine kz J Y Y Y Y Y Y fun a J=> kz J Y Y Y Y Y Y fun a J=> kz J Y Y Y Y Y Y fun a J=> pT J Y Y Y fun a J=> mv J Y Y fun a J=> kz J Y Y Y Y Y Y fun a J=> kz J Y Y Y Y Y Y fun a J=> kz J Y Y Y Y Y Y fun a J=> pT J Y Y Y fun a J=> mv J Y Y fun a J=> kz J Y Y Y Y Y Y fun a J=> kz J Y Y Y Y Y Y fun a J=> kz J Y Y Y Y Y Y fun a J=> pT J Y Y Y fun a J=> mv J Y Y fun a J=> kz J Y Y Y Y Y Y fun a J=> kz J Y Y Y Y Y Y fun a J=> kz J Y Y Y Y Y Y fun a J=> pT J Y Y Y fun a J=> av J Y Y fun a J=> s0 ?_
  exact then_n (hK5' _ _ ⟨J.sub ⟨Y, Y, Y, Y, (by first | exact cb_true (by omega) | exact cb_dec (by omega)), trivial⟩, G.sel [2, 1, 3] Y Y⟩)
 refine sv' J (wy J Y Y Y) Y Y (R.fieldAddr (k := 46) Tryz.underlying35 Y nz3 (J.ev Y) Y) fun a J=> sv' J (wy J Y Y Y) Y Y (R.load one3 (J.ev Y) G (.t (.t .h)) (Y)) fun a J=> sv' J (wy J Y Y Y) Y Y (R.lss (J.ev Y) (J.ev Y)) fun a J=> pF J Y Y Y fun a J=> mv J Y Y fun a J=> J.splitD (t := 40) Y (fun h40 J=> ?_) (fun h40 J=> ?_)
 ·refine kz J Y Y Y Y Y Y fun a J=> kz J Y Y Y Y Y Y fun a J=> kz J Y Y Y Y Y Y fun a J=> pT J Y Y Y fun a J=> mv J Y Y fun a J=> kz J Y Y Y Y Y Y fun a J=> kz J Y Y Y Y Y Y fun a J=> kz J Y Y Y Y Y Y fun a J=> pT J Y Y Y fun a J=> mv J Y Y fun a J=> kz J Y Y Y Y Y Y fun a J=> kz J Y Y Y Y Y Y fun a J=> kz J Y Y Y Y Y Y fun a J=> pT J Y Y Y fun a J=> av J Y Y fun a J=> s0 ?_
  exact then_n (hK5' _ _ ⟨J.sub ⟨Y, Y, Y, Y, (by first | exact cb_true (by omega) | exact cb_dec (by omega)), trivial⟩, G.sel [2, 1, 3] Y Y⟩)
 refine sv' J (wy J Y Y Y) Y Y (R.fieldAddr (k := 46) Tryz.underlying35 Y nz3 (J.ev Y) Y) fun a J=> sv' J (wy J Y Y Y) Y Y (R.load one3 (J.ev Y) G (.t (.t .h)) (Y)) fun a J=> sv' J (wy J Y Y Y) Y Y (R.gtr (J.ev Y) (J.ev Y)) fun a J=> pF J Y Y Y fun a J=> mv J Y Y fun a J=> J.splitD (t := 45) Y (fun h45 J=> ?_) (fun h45 J=> ?_)
 ·refine kz J Y Y Y Y Y Y fun a J=> kz J Y Y Y Y Y Y fun a J=> kz J Y Y Y Y Y Y fun a J=> pT J Y Y Y fun a J=> mv J Y Y fun a J=> kz J Y Y Y Y Y Y fun a J=> kz J Y Y Y Y Y Y fun a J=> kz J Y Y Y Y Y Y fun a J=> pT J Y Y Y fun a J=> av J Y Y fun a J=> s0 ?_
  exact then_n (hK5' _ _ ⟨J.sub ⟨Y, Y, Y, Y, (by first | exact cb_true (by omega) | exact cb_dec (by omega)), trivial⟩, G.sel [2, 1, 3] Y Y⟩)
 refine sv' J (wy J Y Y Y) Y Y (R.fieldAddr (k := 47) Tryz.underlying35 Y nz3 (J.ev Y) Y) fun a J=> sv' J (wy J Y Y Y) Y Y (R.load one3 (J.ev Y) G (.t (.t .h)) (Y)) fun a J=> sv' J (wy J Y Y Y) Y Y (R.lss (J.ev Y) (J.ev Y)) fun a J=> pF J Y Y Y fun a J=> mv J Y Y fun a J=> J.splitD (t := 50) Y (fun h50 J=> ?_) (fun h50 J=> ?_)
 ·refine kz J Y Y Y Y Y Y fun a J=> kz J Y Y Y Y Y Y fun a J=> kz J Y Y Y Y Y Y fun a J=> pT J Y Y Y fun a J=> av J Y Y fun a J=> s0 ?_
  exact then_n (hK5' _ _ ⟨J.sub ⟨Y, Y, Y, Y, (by first | exact cb_true (by omega) | exact cb_dec (by omega)), trivial⟩, G.sel [2, 1, 3] Y Y⟩)
 refine sv' J (wy J Y Y Y) Y Y (R.fieldAddr (k := 47) Tryz.underlying35 Y nz3 (J.ev Y) Y) fun a J=> sv' J (wy J Y Y Y) Y Y (R.load one3 (J.ev Y) G (.t (.t .h)) (Y)) fun a J=> sv' J (wy J Y Y Y) Y Y (R.gtr (J.ev Y) (J.ev Y)) fun a J=> pF J Y Y Y fun a J=> av J Y Y fun a J=> s0 ?_
 exact then_n (hK5' _ _ ⟨J.sub ⟨Y, Y, Y, Y, (by first | exact cb_true (by omega) | exact cb_dec (by omega)), trivial⟩, G.sel [2, 1, 3] Y Y⟩)
end Go.Proofs.YtlapmbkfmbkdoaaGreatDoor
end
section
namespace Go.Proofs.YtlapmbkfmbkdoaaGreatDoor
open Go Go.Fw Go.RowKit
def validP (code : List Nat) (p : Nat) : Prop := p = code.length ∨ ∃ l, placesN code = some l ∧ p ∈ l
theorem plc_next {xs : List Nat} : ∀ (f p : Nat) (l : List Nat), plc xs f p = some l → p ≤ xs.length → ∀ q ∈ l, q + sizeN xs q = xs.length ∨ q + sizeN xs q ∈ l
  | 0, _, _, h, _ => by simp [plc] at h
  | f + 1, p, l, h, hp => by
    simp only [plc] at h
    split at h
    · simp at h; subst h; simp
    split at h
    · simp at h
    · rename_i h1 h2
      cases hr : plc xs f (p + sizeN xs p) with
      | none => rw [hr] at h; simp at h
      | some r =>
        rw [hr] at h
        simp only [Option.map_some, Option.some.injEq] at h
        subst h
        have hle := (sizeN_le xs p).resolve_left h2
        intro q hq
        rcases List.mem_cons.1 hq with rfl | hq
        · cases f with
          | zero => simp [plc] at hr
          | succ f =>
            by_cases he : xs.length ≤ q + sizeN xs q
            · left; omega
            · right
              simp only [plc, if_neg he] at hr
              split at hr
              · simp at hr
              · cases hr2 : plc xs f (q + sizeN xs q + sizeN xs (q + sizeN xs q)) with
                | none => rw [hr2] at hr; simp at hr
                | some r2 => rw [hr2] at hr; simp at hr; subst hr; simp
        · rcases plc_next f _ r hr hle q hq with h3 | h3
          · exact .inl h3
          · exact .inr (List.mem_cons_of_mem _ h3)
theorem places_next {xs l : List Nat} (h : placesN xs = some l) {q : Nat} (hq : q ∈ l) : validP xs (q + sizeN xs q) := by
  rcases plc_next _ _ _ h (Nat.zero_le _) q hq with h1 | h1
  · exact .inl h1
  · exact .inr ⟨l, h, h1⟩
theorem valid_0 {xs : List Nat} (h : chkN xs = true) : validP xs 0 := by
  cases hl : placesN xs with
  | none => simp [chkN, hl] at h
  | some l =>
    have h1 : 1 ≤ xs.length := by
      unfold chkN at h
      simp only [Bool.and_eq_true, decide_eq_true_eq] at h
      exact h.1.1
    refine .inr ⟨l, hl, ?_⟩
    have := hl
    unfold placesN at this
    simp only [plc] at this
    rw [if_neg (by omega)] at this
    split at this
    · simp at this
    · cases hr : plc xs xs.length (0 + sizeN xs 0) with
      | none => rw [hr] at this; simp at this
      | some r => rw [hr] at this; simp at this; subst this; simp
theorem valid_jump {xs : List Nat} (h : chkN xs = true) {p : Nat} (hp : p < xs.length) (hv : validP xs p) (hj : cAt xs p = 14 ∨ cAt xs p = 15) : validP xs (targetN xs p) := by
  rcases hv with hv | ⟨l, hl, hm⟩
  · omega
  · refine .inr ⟨l, hl, ?_⟩
    simp only [chkN, hl, Bool.and_eq_true] at h
    have := List.all_eq_true.1 h.2 p hm
    rw [isJump_of hj] at this
    simpa using this
theorem valid_size {xs : List Nat} {p : Nat} (hp : p < xs.length) (hv : validP xs p) : sizeN xs p ≠ 0 := by
  rcases hv with hv | ⟨l, hl, hm⟩
  · omega
  · exact (places_mem hl p hm).2
theorem valid_next {xs : List Nat} {p : Nat} (hp : p < xs.length) (hv : validP xs p) : validP xs (p + sizeN xs p) := by
  rcases hv with hv | ⟨l, hl, hm⟩
  · omega
  · exact places_next hl hm
theorem allW_snoc {l : List Nat} {x : Nat} (h : AllW l) (hx : x < 115792089237316195423570985008687907853269984665640564039457584007913129639936) : AllW (l ++ [x]) := by
  intro y hy
  rcases List.mem_append.1 hy with h1 | h1
  · exact h y h1
  · rw [List.mem_singleton.1 h1]; exact hx
theorem allW_set {l : List Nat} (h : AllW l) {k x : Nat} (hx : x < 115792089237316195423570985008687907853269984665640564039457584007913129639936) : AllW (l.set k x) := by
  intro y hy
  rcases List.mem_or_eq_of_mem_set hy with h1 | h1
  · exact h y h1
  · rw [h1]; exact hx
theorem rep_val {F : Fx} (h : ∀ r ∈ F.reps, r.1 < 115792089237316195423570985008687907853269984665640564039457584007913129639936) (k : Nat) : (F.rep k).1 < 115792089237316195423570985008687907853269984665640564039457584007913129639936 := by
  rw [Fx.rep, List.getD_eq_getElem?_getD]
  cases hk : F.reps[k]? with
  | none => exact (by decide)
  | some r => exact h r (List.mem_of_getElem? hk)
theorem told_val {F : Fx} (hK : F.Ok) {c b left : Nat} (hl : left ≤ 10000) : toldN F.cl c b left < 115792089237316195423570985008687907853269984665640564039457584007913129639936 := by
  have hc := callOk_tok hK.call
  unfold toldN
  repeat' split
  · exact allW_getD hK.argsW b
  · omega
  · exact numB_lt32 (by simp) (byt_range hK.caller 20)
  · exact numB_lt32 (by simp) (byt_range hK.self 20)
  · omega
  · exact hK.amount
  · omega
  · omega
theorem arith_val {c x y r : Nat} (hx : x < 115792089237316195423570985008687907853269984665640564039457584007913129639936) (h : arithN c x y = some r) : r < 115792089237316195423570985008687907853269984665640564039457584007913129639936 := by
  unfold arithN at h
  have hb : ∀ b, bit1 b ≤ 1 := fun b => by cases b <;> decide
  repeat' split at h
  all_goals first | (simp at h; done) | (simp only [Option.some.injEq] at h; subst h; first | assumption | omega | exact Nat.lt_of_le_of_lt (hb _) (by decide) | exact Nat.lt_of_le_of_lt (Nat.div_le_self _ _) hx | exact Nat.lt_of_le_of_lt (Nat.mod_le _ _) hx)
theorem do_more {F : Fx} (hK : F.Ok) {c b p left : Nat} {st : List Nat} {u : Nat → Nat} {asks : List Fw.Ask} {stk' : List Nat} {left' p' : Nat} {asks' : List Fw.Ask} (h28 : c < 28) (hW : AllW st) (hu : ∀ i, u i < 115792089237316195423570985008687907853269984665640564039457584007913129639936) (hl : left ≤ 10000)
    (hsz : c = 2 → sizeN F.code p ≤ 34) (h : doN F.cl F.code F.rep c b p left st u asks = .more stk' left' p' asks') :
    left' = left ∧ (p' = p + sizeN F.code p ∨ ((c = 14 ∨ c = 15) ∧ p' = targetN F.code p)) ∧ stk'.length = st.length + laysN c ∧ AllW stk' ∧ asks'.length ≤ asks.length + 1 ∧ (c < 24 → asks' = asks) := by
  have hb : ∀ b, bit1 b < 115792089237316195423570985008687907853269984665640564039457584007913129639936 := fun b => by cases b <;> decide
  have hcases : c = 0 ∨ c = 1 ∨ c = 2 ∨ c = 3 ∨ c = 4 ∨ c = 5 ∨ (6 ≤ c ∧ c ≤ 12) ∨ c = 13 ∨ c = 14 ∨ c = 15 ∨ (16 ≤ c ∧ c ≤ 23) ∨ 24 ≤ c := by omega
  rcases hcases with rfl | rfl | rfl | rfl | rfl | rfl | ⟨h1, h2⟩ | rfl | rfl | rfl | ⟨h1, h2⟩ | h1
  · simp [doN] at h
  · simp [doN] at h
  · simp [doN] at h
    obtain ⟨rfl, rfl, rfl, rfl⟩ := h
    exact ⟨rfl, .inl rfl, by simp [laysN], allW_snoc hW (numB_lt32 (by rw [List.length_take]; have := hsz rfl; omega) fun d hd => hK.byt d (List.drop_subset _ _ (List.take_subset _ _ hd))), by omega, fun _ => rfl⟩
  · simp [doN] at h
    obtain ⟨rfl, rfl, rfl, rfl⟩ := h
    exact ⟨rfl, .inl rfl, by simp [laysN], hW, by omega, fun _ => rfl⟩
  · rw [show doN F.cl F.code F.rep 4 b p left st u asks = .more (st ++ [st.getD (st.length - 1 - b) 0]) left (p + sizeN F.code p) asks from rfl] at h
    simp only [Out.more.injEq] at h
    obtain ⟨rfl, rfl, rfl, rfl⟩ := h
    exact ⟨rfl, .inl rfl, by simp [laysN], allW_snoc hW (allW_getD hW _), by omega, fun _ => rfl⟩
  · rw [show doN F.cl F.code F.rep 5 b p left st u asks = .more (swapN st b) left (p + sizeN F.code p) asks from rfl] at h
    simp only [Out.more.injEq] at h
    obtain ⟨rfl, rfl, rfl, rfl⟩ := h
    exact ⟨rfl, .inl rfl, by simp [laysN, swapN], allW_set (allW_set hW (allW_getD hW _)) (allW_getD hW _), by omega, fun _ => rfl⟩
  · have e : doN F.cl F.code F.rep c b p left st u asks = (match arithN c (u 0) (u 1) with | none => .err 104 asks | some r => .more (st ++ [r]) left (p + sizeN F.code p) asks) := by
      unfold doN
      rw [if_neg (by omega), if_neg (by omega), if_neg (by omega), if_neg (by omega), if_neg (by omega), if_neg (by omega), if_pos h2]
      rfl
    rw [e] at h
    cases ha : arithN c (u 0) (u 1) with
    | none => rw [ha] at h; simp at h
    | some r =>
      rw [ha] at h
      simp only [Out.more.injEq] at h
      obtain ⟨rfl, rfl, rfl, rfl⟩ := h
      have hla : laysN c = 1 := by
        have : ∀ c, c < 13 → 6 ≤ c → laysN c = 1 := by decide
        exact this c (by omega) h1
      exact ⟨rfl, .inl rfl, by simp [hla], allW_snoc hW (arith_val (hu 0) ha), by omega, fun _ => rfl⟩
  · rw [show doN F.cl F.code F.rep 13 b p left st u asks = .more (st ++ [bit1 (decide (u 0 = 0))]) left (p + sizeN F.code p) asks from rfl] at h
    simp only [Out.more.injEq] at h
    obtain ⟨rfl, rfl, rfl, rfl⟩ := h
    exact ⟨rfl, .inl rfl, by simp [laysN], allW_snoc hW (hb _), by omega, fun _ => rfl⟩
  · simp [doN] at h
    obtain ⟨rfl, rfl, rfl, rfl⟩ := h
    exact ⟨rfl, .inr ⟨.inl rfl, rfl⟩, by simp [laysN], hW, by omega, fun _ => rfl⟩
  · rw [show doN F.cl F.code F.rep 15 b p left st u asks = .more st left (if u 0 ≠ 0 then targetN F.code p else p + sizeN F.code p) asks from rfl] at h
    simp only [Out.more.injEq] at h
    obtain ⟨rfl, rfl, rfl, rfl⟩ := h
    refine ⟨rfl, ?_, by simp [laysN], hW, by omega, fun _ => rfl⟩
    split
    · exact .inr ⟨.inr rfl, rfl⟩
    · exact .inl rfl
  · have e : doN F.cl F.code F.rep c b p left st u asks = .more (st ++ [toldN F.cl c b left]) left (p + sizeN F.code p) asks := by
      unfold doN
      rw [if_neg (by omega), if_neg (by omega), if_neg (by omega), if_neg (by omega), if_neg (by omega), if_neg (by omega), if_neg (by omega), if_neg (by omega), if_neg (by omega), if_neg (by omega), if_pos h2]
    rw [e] at h
    simp only [Out.more.injEq] at h
    obtain ⟨rfl, rfl, rfl, rfl⟩ := h
    have hla : laysN c = 1 := by
      have : ∀ c, c < 24 → 16 ≤ c → laysN c = 1 := by decide
      exact this c (by omega) h1
    exact ⟨rfl, .inl rfl, by simp [hla], allW_snoc hW (told_val hK hl), by omega, fun _ => rfl⟩
  · have e : doN F.cl F.code F.rep c b p left st u asks = (match askN c u with
      | none => .err 104 asks
      | some q => if (F.rep asks.length).2 ≠ 0 then .err (F.rep asks.length).2 (asks ++ [q]) else .more (if c = 24 ∨ c = 26 then st ++ [(F.rep asks.length).1] else st) left (p + sizeN F.code p) (asks ++ [q])) := by
      unfold doN
      rw [if_neg (by omega), if_neg (by omega), if_neg (by omega), if_neg (by omega), if_neg (by omega), if_neg (by omega), if_neg (by omega), if_neg (by omega), if_neg (by omega), if_neg (by omega), if_neg (by omega)]
      rfl
    rw [e] at h
    cases ha : askN c u with
    | none => rw [ha] at h; simp at h
    | some q =>
      rw [ha] at h
      simp only at h
      split at h
      · simp at h
      · simp only [Out.more.injEq] at h
        obtain ⟨rfl, rfl, rfl, rfl⟩ := h
        refine ⟨rfl, .inl rfl, ?_, ?_, by simp, fun h9 => by omega⟩
        · have : ∀ c, c < 28 → 24 ≤ c → laysN c = if c = 24 ∨ c = 26 then 1 else 0 := by decide
          rw [this c h28 h1]
          split <;> simp
        · split
          · exact allW_snoc hW (rep_val hK.reps _)
          · exact hW
theorem stp_more {F : Fx} (hK : F.Ok) {stk : List Nat} {left p : Nat} {asks : List Fw.Ask} {stk' : List Nat} {left' p' : Nat} {asks' : List Fw.Ask} (hv : validP F.code p) (hl : stk.length ≤ 64) (hW : AllW stk) (hq : left ≤ 10000)
    (h : stp F.cl F.code F.rep stk left p asks = .more stk' left' p' asks') : validP F.code p' ∧ stk'.length ≤ 64 ∧ AllW stk' ∧ left' < left ∧ asks'.length + left' ≤ asks.length + left := by
  by_cases h1 : F.code.length ≤ p
  · rw [stp_end h1] at h; simp at h
  have hp : p < F.code.length := by omega
  have hs := valid_size hp hv
  have h28 := size_28 hs
  have hsm := take_small _ h28
  have htd : takesN (cAt F.code p) ≤ deepN F.code p := deep_le
  by_cases h2 : left < priceN (cAt F.code p)
  · rw [stp_gas hp h2] at h; simp at h
  by_cases h3 : stk.length < deepN F.code p ∨ 64 < stk.length - takesN (cAt F.code p) + laysN (cAt F.code p)
  · rw [stp_stack hp h2 h3] at h; simp at h
  rw [stp_do hp h2 h3] at h
  have hsz : cAt F.code p = 2 → sizeN F.code p ≤ 34 := fun h2 => by
    revert hs; unfold sizeN
    repeat' split
    all_goals omega
  obtain ⟨rfl, k2, k3, k4, k5, k6⟩ := do_more hK h28 (fun x hx => hW x (List.take_subset _ _ hx)) (fun i => allW_getD hW _) (by omega) hsz h
  refine ⟨?_, ?_, k4, by omega, ?_⟩
  · rcases k2 with rfl | ⟨hj, rfl⟩
    · exact valid_next hp hv
    · exact valid_jump hK.chk hp hv hj
  · rw [k3, List.length_take]; omega
  · omega
end Go.Proofs.YtlapmbkfmbkdoaaGreatDoor
end
