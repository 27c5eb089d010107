/- Closures; plays; the walk of MachineNested. -/
import Derived.Test.YtlapmbkfmbkdoaaFf
import Derived.Test.YtlapmbkfmbkdoaaFd
namespace Go.Proofs.Ytlapmbkfmbkdoaa
open Go Go.Fw Go.RowKit
attribute [local irreducible] Go.Oper.wp Go.Code.wp Go.wpList Go.Fw.WL Go.Calls
theorem O.callC {P : Program} {n d : Nat} {env : Env} {a : Act} {w w0 : World} {K : Act → World → Prop} {Q : Exit → Act → World → Prop} {dst : Option Tmp} {ty : TypeId} {pos : String} {af : Array Edge} {g : Option (Nat × Bool)} {ks : List Nat} {bs : List Seg} {f : FuncId} {fo : Operand} {xs : List Operand} {tys : Array TypeId} {vs caps : List Value} {R : Value → Seg → Prop} (hd : dst = some d) (hn : Nat.blt d n = true) (hF : Fr n env a)
    (hfo : a.eval fo = .func (.func f) #[] caps.toArray)
    (he : ∀ args w, (callFunc f args).run P w = .ok (.enter f args) w) (hx : xs.map a.eval = vs) (hS : St w0 ks bs w) (hC : Ret P f (vs ++ caps) w [] R)
    (h : ∀ v s a' w', R v s → Fr n ((d, v) :: env) a' → St w0 ks (s :: bs) w' → K a' w') : Oper.wp P ⟨dst, .call ⟨.value fo, xs.toArray, tys⟩, ty, pos, af, g⟩ a w K Q := by
  subst hd
  have e : (execOp a.eval ⟨some d, .call ⟨.value fo, xs.toArray, tys⟩, ty, pos, af, g⟩).run P w = (callFunc f (vs ++ caps).toArray).run P w := by
    subst hx
    simp [execOp, resolve, Deferred.ofValue, hfo, invoke]
  unfold Oper.wp
  rw [e, he, Oper.upon_enter]
  refine Calls.mono hC ?_
  rintro e w' ⟨v, s, rfl, hR, hs⟩
  exact h v s _ w' hR (hF.put hn v) (hS.comp0 hs)
theorem R.makeFunc {P : Program} {ρ : Operand → Value} {w : World} {dst : Option Tmp} {ty : TypeId} {pos : String} {af : Array Edge} {g : Option (Nat × Bool)} {f : Fn} {xs : List Operand} {vs : List Value} (hx : xs.map ρ = vs) : (execOp ρ ⟨dst, .makeFunc f #[] xs.toArray, ty, pos, af, g⟩).run P w = .ok (.value (.func f #[] vs.toArray)) w := by
  subst hx
  simp [execOp, Instr.makeFunc]

def RunR (r : Played) (v : Value) (s : Seg) : Prop := ∃ A c, v = .tuple #[.agg (wc r.v ++ [Value.int .i64 r.gas]).toArray, .int .i64 r.e, .slice A r.asks.length c] ∧ OwnS s A r.asks.length c (r.asks.flatMap askc) 72 30
theorem Fx.Ok0.inner {F : Fx} (h : Fx.Ok0 F) (A : Option Addr) (c : Nat) (xs : List Nat) : Fx.Ok0 { F with iA := A, ic := c, inner := xs } := ⟨h.byt, h.cap, h.cap2, h.argsW, h.acap, h.acap2, h.self, h.caller, h.amount, h.reps, h.qlen⟩
theorem PlayIn.old {F : Fx} {w0 w : World} {bs : List Seg} (h : PlayIn F w0) (hS : St w0 [] bs w) : PlayIn F w := ⟨h.ok, h.inner, h.code.old hS, h.args.old hS, h.reps.old hS, h.b1, h.b2, h.b3, h.tok, h.time, h.gas, h.errs⟩
theorem playI (F : Fx) (B : Option Addr) (c : Nat) (xs : List Nat) (w0 : World) (hp : PlayIn F w0) (hI : Rd w0 B (byts xs)) (hB : Byt xs) (hc : xs.length ≤ c) (hc2 : c ≤ 9223372036854775807) : Ret Try.prog 15 [.agg (plays F).toArray, .slice B xs.length c] w0 [] (RunR (playN F.cl F.code F.rep)) :=
  lawrun_calls { F with iA := B, ic := c, inner := xs } w0 (hp.ok.inner B c xs) ⟨hB, hc, hc2⟩ hp.code hp.args hp.reps hI hp.b1 hp.b2 hp.b3
theorem play0 (F : Fx) (w0 : World) (hp : PlayIn F w0) : Ret Try.prog 15 [.agg (plays F).toArray, .slice none 0 0] w0 [] (RunR (playN F.cl F.code F.rep)) :=
  playI F none 0 [] w0 hp (Rd.nil _ _) (by intro x hx; simp at hx) (Nat.le_refl _) (Nat.zero_le _)
def nestF (B : Option Addr) (c : Nat) (xs : List Nat) : Fx := { rb := 0, hb := 0, cA := B, cc := c, code := xs, aA := none, ac := 0, cl := ⟨fun _ => 0, fun _ => 0, 0, 0, [], 0, 500⟩, qA := none, qc := 0, reps := [], iA := none, ic := 0, inner := [] }
theorem nest_in {B : Option Addr} {c : Nat} {xs : List Nat} {w : World} (hI : Rd w B (byts xs)) (hB : Byt xs) (hc : xs.length ≤ c) (hc2 : c ≤ 9223372036854775807) (hb : xs.length ≤ 140737488351232) : PlayIn (nestF B c xs) w :=
  ⟨⟨hB, hc, hc2, by intro x hx; simp [nestF] at hx, Nat.zero_le _, Nat.zero_le _, fun _ => by show 0 < 256; decide, fun _ => by show 0 < 256; decide, by show 0 < _; decide, by intro r hr; simp [nestF] at hr, Nat.zero_le _⟩, rfl, hI, Rd.nil _ _, Rd.nil _ _, hb, Nat.zero_le _, Nat.zero_le _, ⟨by show _ ≤ (0 : Int); decide, by show (0 : Int) ≤ _; decide⟩, ⟨by show _ ≤ (0 : Int); decide, by show (0 : Int) ≤ _; decide⟩, ⟨by show _ ≤ (500 : Int); decide, by show (500 : Int) ≤ _; decide⟩, by intro r hr; simp [nestF] at hr⟩
def nest0 : List Nat := [2, 1, 9, 2, 1, 4, 25, 2, 1, 1, 1]
theorem nest0_byt : Byt nest0 := by intro d hd; simp [nest0] at hd; omega

set_option maxHeartbeats 4000000 in
theorem nested_calls (F : Fx) (B : Option Addr) (c : Nat) (xs : List Nat) (w0 : World) (hp : PlayIn F w0) (hI : Rd w0 B (byts xs)) (hB : Byt xs) (hc : xs.length ≤ c) (hc2 : c ≤ 9223372036854775807) (hb : xs.length ≤ 140737488351232) : Ret Try.prog 8 [.agg (plays F).toArray, .slice B xs.length c] w0 [] (fun v s => v = .bool true ∧ s = []) := by
  refine fn_start Try.func8 rfl Try.ntmps8 rfl [(0, .agg (plays F).toArray), (1, .slice B xs.length c)] ⟨rfl, rfl, trivial⟩ ?_
  intro Q a hP hF hR hN
  have hS := St.start w0
  refine wp_seq_k fun K1 hK1 => ?_
  refine wp_region_lit ?_
  refine so (wn rfl) (O.box rfl rfl hF (hF.ev rfl) rfl hS fun b2 a w hF hS => ?_)
  refine sv' hF (wn rfl) rfl rfl (R.assign (hF.ev rfl)) fun a hF => ?_
  refine s0 ?_
  refine then_n (hK1 _ _ ?_)
  refine wp_seq_k fun K2 hK2 => ?_
  refine wp_region_lit ?_
  refine sv' hF (wn rfl) rfl rfl (R.loadW agg37 (hF.ev rfl) hS .h sz37 (rfl)) fun a hF => ?_
  refine so (wn rfl) (O.call rfl rfl hF ent15 (hF.evs rfl) hS (play0 F w (hp.old hS)) fun v s16 a w hR hF hS => ?_)
  obtain ⟨A16, c16, rfl, hO16⟩ := hR
  refine sv' hF (wn rfl) rfl rfl (R.move (hF.ev rfl)) fun a hF => ?_
  refine sv' hF (wn rfl) rfl rfl (R.extract (hF.ev rfl) rfl) fun a hF => ?_
  refine sv' hF (wn rfl) rfl rfl (R.extract (hF.ev rfl) rfl) fun a hF => ?_
  refine sv' hF (wn rfl) rfl rfl (R.extract (hF.ev rfl) rfl) fun a hF => ?_
  refine so (wn rfl) (O.alloc rfl rfl hF ze39 rfl hS fun b5 a w hF hS => ?_)
  refine so (wn rfl) (O.storeW sz39 (hF.ev rfl) (hF.ev rfl) (rfl) rfl (by simp [Value.oneCell']) hS .h (rfl) fun w hS => ?_)
  refine sv' hF (wn rfl) rfl rfl (R.assign (hF.ev rfl)) fun a hF => ?_
  refine sv' hF (wn rfl) rfl rfl (R.assign (hF.ev rfl)) fun a hF => ?_
  refine s0 ?_
  refine then_n (hK2 _ _ ?_)
  refine wp_seq_k fun K3 hK3 => ?_
  refine wp_seq_k fun K4 hK4 => ?_
  refine wp_region_lit ?_
  refine sv' hF (wn rfl) rfl rfl (R.move (hF.ev rfl)) fun a hF => ?_
  refine sv' hF (wn rfl) rfl rfl (R.len Try.underlying23 (hF.ev rfl)) fun a hF => ?_
  refine sv' hF (wn rfl) rfl rfl (R.eql (hF.ev rfl) (hF.ev rfl)) fun a hF => ?_
  refine s0 ?_
  refine then_n (hK4 _ _ ?_)
  refine cD hF rfl (fun c1 => ?_) (fun c1 => ?_)
  ·
    refine wp_region_lit ?_
    refine so (wn rfl) (O.buildSlice (l := [_, _, _, _, _, _, _, _, _, _, _]) rfl rfl hF Try.underlying23 inf5 rfl rfl (hF.evp rfl) (by decide) rfl hS fun b23 a w hF hS => ?_)
    refine sv' hF (wn rfl) rfl rfl (R.assign (hF.ev rfl)) fun a hF => ?_
    refine s0 ?_
    refine then_n (hK3 _ _ ?_)
    refine wp_seq_k fun K5 hK5 => ?_
    refine wp_drawN hS (hS.sel [3] rfl rfl) [(0, 1), (2, 0), (1, 2), (3, 2), (4, 2), (5, 0), (6, 0), (7, 0), (8, 0), (9, 2), (10, 2), (11, 0), (12, 0)] (.node [(0, 1), (2, 0)] (.node [(1, 2)] (.node [(3, 2)] (.leaf [(4, 2), (5, 0), (6, 0), (7, 0), (8, 0), (9, 2), (10, 2), (11, 0), (12, 0)]) (.leaf [(9, 2), (4, 2), (5, 0), (6, 0), (7, 0), (8, 0), (10, 2), (11, 0), (12, 0)])) (.leaf [(9, 2), (3, 2), (4, 2), (5, 0), (6, 0), (7, 0), (8, 0), (10, 2), (11, 0), (12, 0)])) (.leaf [(9, 2), (1, 2), (3, 2), (4, 2), (5, 0), (6, 0), (7, 0), (8, 0), (10, 2), (11, 0), (12, 0)])) mix (by kernel_rfl) (hP.then) fun w hS hD => ?_
    refine dr hF rfl (wn rfl) rfl rfl hD (fun w hD => R.loadW agg37 (hF.ev rfl) hD .h sz37 (rfl)) fun a hF => ?_
    refine dq hF rfl (wn rfl) rfl rfl (fun w => R.move (hF.ev rfl)) fun a hF => ?_
    refine d0 ?_
    refine ⟨?_, ?_⟩
    ·
      refine dl rfl (wn rfl) (O.buildSlice (l := []) rfl rfl hF Try.underlying23 inf5 rfl rfl (hF.evp rfl) (by decide) rfl hS fun b26 a w hF hS => ⟨fun hD => hS.sel [4] rfl rfl, ?_⟩)
      have hD := hS.sel [4] rfl rfl
      refine d0 ?_
      refine ⟨?_, ?_⟩
      ·
        refine dl rfl (wn rfl) (O.appendO rfl rfl hF Try.underlying23 inf5 rfl rfl (by decide) (hF.ev rfl) (hF.ev rfl) hS (own_nil5 b26) (fun _ => .h) (Rd.own0 (l := byts nest0) hS (.t .h)) (rfl) (byts_one _) (by unfold maxLen; omega) (by omega) fun A28 c28 s28 a w hO28 hF hS => ⟨fun hD => hS.sel [4] rfl rfl, ?_⟩)
        have hD := hS.sel [4] rfl rfl
        rw [Nat.zero_add] at hF hO28; rw [show byts [] = [] from rfl, List.nil_append] at hO28
        refine d0 ?_
        refine ⟨?_, ?_⟩
        ·
          refine dl rfl (wn rfl) (O.call rfl rfl hF ent15 (hF.evs rfl) hS (playI F A28 c28 nest0 w (hp.old hS) (hO28.rd hS .h) nest0_byt hO28.2.1 hO28.cap) fun v s29 a w hR hF hS => ⟨fun hD => hS.sel [5] rfl rfl, ?_⟩)
          obtain ⟨A29, c29, rfl, hO29⟩ := hR
          have hD := hS.sel [5] rfl rfl
          refine dq hF rfl (wn rfl) rfl rfl (fun w => R.move (hF.ev rfl)) fun a hF => ?_
          refine dq hF rfl (wn rfl) rfl rfl (fun w => R.extract (hF.ev rfl) rfl) fun a hF => ?_
          refine dq hF rfl (wn rfl) rfl rfl (fun w => R.extract (hF.ev rfl) rfl) fun a hF => ?_
          refine dq hF rfl (wn rfl) rfl rfl (fun w => R.extract (hF.ev rfl) rfl) fun a hF => ?_
          refine dl rfl (wn rfl) (O.alloc rfl rfl hF ze39 rfl hS fun b8 a w hF hS => ⟨fun hD => hS.sel [6] rfl rfl, ?_⟩)
          have hD := hS.sel [6] rfl rfl
          refine dl rfl (wn rfl) (O.storeW sz39 (hF.ev rfl) (hF.ev rfl) (rfl) rfl (by simp [Value.oneCell']) hS .h (rfl) fun w hS => ⟨fun hD => hS.sel [6] rfl rfl, ?_⟩)
          have hD := hS.sel [6] rfl rfl
          refine dq hF rfl (wn rfl) rfl rfl (fun w => R.assign (hF.ev rfl)) fun a hF => ?_
          refine dq hF rfl (wn rfl) rfl rfl (fun w => R.assign (hF.ev rfl)) fun a hF => ?_
          refine d0 ?_
          refine then_n (hK5 _ _ ?_)
          refine wp_seq_k fun K6 hK6 => ?_
          refine wp_region_lit ?_
          refine sv' hF (wn rfl) rfl rfl (R.move (hF.ev rfl)) fun a hF => ?_
          refine sv' hF (wn rfl) rfl rfl (R.buildStr (l := callc (nestF (some ⟨b23, 0, none⟩) 11 nest0)) Try.underlying34 ze34 pl34 (hF.evp rfl) (by kernel_rfl)) fun a hF => ?_
          refine sv' hF (wn rfl) rfl rfl (R.buildStr (l := plays (nestF (some ⟨b23, 0, none⟩) 11 nest0)) Try.underlying37 ze37 pl37 (hF.evp rfl) (by kernel_rfl)) fun a hF => ?_
          refine so (wn rfl) (O.call rfl rfl hF ent15 (hF.evs rfl) hS (play0 (nestF (some ⟨b23, 0, none⟩) 11 nest0) w (nest_in (Rd.own0 hS (.t (.t (.t .h)))) nest0_byt (Nat.le_refl _) (by decide) (by decide))) fun v s36 a w hR hF hS => ?_)
          obtain ⟨A36, c36, rfl, hO36⟩ := hR
          refine s0 ?_
          refine then_n (hK6 _ _ ?_)
          refine wp_seq_k fun K7 hK7 => ?_
          refine wp_region_lit ?_
          refine sv' hF (wn rfl) rfl rfl (R.loadW agg37 (hF.ev rfl) hS (.t (.t (.t (.t (.t (.t (.t .h))))))) sz37 (rfl)) fun a hF => ?_
          refine so (wn rfl) (O.call rfl rfl hF ent15 (hF.evs rfl) hS (play0 F w (hp.old hS)) fun v s39 a w hR hF hS => ?_)
          obtain ⟨A39, c39, rfl, hO39⟩ := hR
          refine sv' hF (wn rfl) rfl rfl (R.move (hF.ev rfl)) fun a hF => ?_
          refine sv' hF (wn rfl) rfl rfl (R.extract (hF.ev rfl) rfl) fun a hF => ?_
          refine sv' hF (wn rfl) rfl rfl (R.extract (hF.ev rfl) rfl) fun a hF => ?_
          refine sv' hF (wn rfl) rfl rfl (R.extract (hF.ev rfl) rfl) fun a hF => ?_
          refine so (wn rfl) (O.alloc rfl rfl hF ze39 rfl hS fun b11 a w hF hS => ?_)
          refine so (wn rfl) (O.storeW sz39 (hF.ev rfl) (hF.ev rfl) (rfl) rfl (by simp [Value.oneCell']) hS .h (rfl) fun w hS => ?_)
          refine sv' hF (wn rfl) rfl rfl (R.assign (hF.ev rfl)) fun a hF => ?_
          refine sv' hF (wn rfl) rfl rfl (R.assign (hF.ev rfl)) fun a hF => ?_
          refine s0 ?_
          refine then_n (hK7 _ _ ?_)
          refine wp_seq_k fun K8 hK8 => ?_
          refine wp_region_lit ?_
          refine sv' hF (wn rfl) rfl rfl (R.loadW agg39 (hF.ev rfl) hS (.t (.t (.t (.t (.t (.t (.t .h))))))) sz39 (rfl)) fun a hF => ?_
          refine sv' hF (wn rfl) rfl rfl (R.loadW agg39 (hF.ev rfl) hS (.t (.t (.t .h))) sz39 (rfl)) fun a hF => ?_
          refine sv' hF (wn rfl) rfl rfl (R.as (u := .bool true) (R.eqlAgg (hF.ev rfl) (hF.ev rfl) (ran_eq _ _) eg39) (rfl)) fun a hF => ?_
          refine sv' hF (wn rfl) rfl rfl (R.move (hF.ev rfl)) fun a hF => ?_
          refine sv' hF (wy hF rfl rfl rfl) rfl rfl (R.loadW agg39 (hF.ev rfl) hS (.t (.t (.t .h))) sz39 (rfl)) fun a hF => ?_
          refine sv' hF (wy hF rfl rfl rfl) rfl rfl (R.loadW agg39 (hF.ev rfl) hS .h sz39 (rfl)) fun a hF => ?_
          refine sv' hF (wy hF rfl rfl rfl) rfl rfl (R.as (u := .bool true) (R.eqlAgg (hF.ev rfl) (hF.ev rfl) (ran_eq _ _) eg39) (rfl)) fun a hF => ?_
          refine sv' hF (wn rfl) rfl rfl (R.pickT (hF.ev rfl) (hF.ev rfl)) fun a hF => ?_
          refine sv' hF (wn rfl) rfl rfl (R.move (hF.ev rfl)) fun a hF => ?_
          refine sv' hF (wy hF rfl rfl rfl) rfl rfl (R.move (hF.ev rfl)) fun a hF => ?_
          refine sv' hF (wy hF rfl rfl rfl) rfl rfl (R.move (hF.ev rfl)) fun a hF => ?_
          refine sv' hF (wy hF rfl rfl rfl) rfl rfl (R.as (u := .bool true) (R.eql (p := (playN F.cl F.code F.rep).e) (q := (playN F.cl F.code F.rep).e) (hF.ev rfl) (hF.ev rfl)) (congrArg Value.bool (decide_eq_true (rfl)))) fun a hF => ?_
          refine sv' hF (wn rfl) rfl rfl (R.pickT (hF.ev rfl) (hF.ev rfl)) fun a hF => ?_
          refine sv' hF (wn rfl) rfl rfl (R.move (hF.ev rfl)) fun a hF => ?_
          refine sv' hF (wy hF rfl rfl rfl) rfl rfl (R.move (hF.ev rfl)) fun a hF => ?_
          refine sv' hF (wy hF rfl rfl rfl) rfl rfl (R.move (hF.ev rfl)) fun a hF => ?_
          refine sv' hF (wy hF rfl rfl rfl) rfl rfl (R.as (u := .bool true) (R.eql (p := (playN F.cl F.code F.rep).e) (q := (playN F.cl F.code F.rep).e) (hF.ev rfl) (hF.ev rfl)) (congrArg Value.bool (decide_eq_true (rfl)))) fun a hF => ?_
          refine sv' hF (wn rfl) rfl rfl (R.pickT (hF.ev rfl) (hF.ev rfl)) fun a hF => ?_
          refine sv' hF (wn rfl) rfl rfl (R.move (hF.ev rfl)) fun a hF => ?_
          refine sv' hF (wy hF rfl rfl rfl) rfl rfl (R.move (hF.ev rfl)) fun a hF => ?_
          refine sv' hF (wy hF rfl rfl rfl) rfl rfl (R.move (hF.ev rfl)) fun a hF => ?_
          refine so (wy hF rfl rfl rfl) (O.call rfl rfl hF ent16 (hF.evs rfl) hS (sameAsks_calls A16 A29 c16 c29 (playN F.cl F.code F.rep).asks w (hO16.rd hS (.t (.t (.t (.t (.t (.t (.t (.t .h))))))))) (hO29.rd hS (.t (.t (.t (.t .h))))) (Nat.le_trans hO16.2.1 hO16.cap)) fun v s64 a w hR hF hS => ?_)
          obtain ⟨rfl, rfl⟩ := hR
          refine sv' hF (wn rfl) rfl rfl (R.pickT (hF.ev rfl) (hF.ev rfl)) fun a hF => ?_
          refine sv' hF (wn rfl) rfl rfl (R.move (hF.ev rfl)) fun a hF => ?_
          refine sv' hF (wy hF rfl rfl rfl) rfl rfl (R.move (hF.ev rfl)) fun a hF => ?_
          refine sv' hF (wy hF rfl rfl rfl) rfl rfl (R.move (hF.ev rfl)) fun a hF => ?_
          refine so (wy hF rfl rfl rfl) (O.call rfl rfl hF ent16 (hF.evs rfl) hS (sameAsks_calls A29 A39 c29 c39 (playN F.cl F.code F.rep).asks w (hO29.rd hS (.t (.t (.t (.t (.t .h)))))) (hO39.rd hS (.t (.t .h))) (Nat.le_trans hO29.2.1 hO29.cap)) fun v s69 a w hR hF hS => ?_)
          obtain ⟨rfl, rfl⟩ := hR
          refine sv' hF (wn rfl) rfl rfl (R.pickT (hF.ev rfl) (hF.ev rfl)) fun a hF => ?_
          refine sv' hF (wn rfl) rfl rfl (R.move (hF.ev rfl)) fun a hF => ?_
          refine so (wy hF rfl rfl rfl) (O.call rfl rfl hF ent11 (hF.evs rfl) hS (alive_calls _) fun v s72 a w hR hF hS => ?_)
          obtain ⟨rfl, rfl⟩ := hR
          refine sv' hF (wn rfl) rfl rfl (R.pickT (hF.ev rfl) (hF.ev rfl)) fun a hF => ?_
          refine sv' hF (wn rfl) rfl rfl (R.assign (hF.ev rfl)) fun a hF => ?_
          refine s0 ?_
          refine then_n (hK8 _ _ ?_)
          refine wp_ret (hR _ _ _ _ _ hF (run_results Try.results8 (.t hF rfl (.nil))) ?_)
          exact ⟨_, [], rfl, ⟨rfl, rfl⟩, hS.none⟩
        ·
          refine dl rfl (wn rfl) (O.alloc rfl rfl hF ze39 rfl hS fun b8 a w hF hS => ⟨fun hD => hS.sel [5] rfl rfl, ?_⟩)
          have hD := hS.sel [5] rfl rfl
          refine dl rfl (wn rfl) (O.call rfl rfl hF ent15 (hF.evs rfl) hS (playI F A28 c28 nest0 w (hp.old hS) (hO28.rd hS (.t .h)) nest0_byt hO28.2.1 hO28.cap) fun v s29 a w hR hF hS => ⟨fun hD => hS.sel [6] rfl rfl, ?_⟩)
          obtain ⟨A29, c29, rfl, hO29⟩ := hR
          have hD := hS.sel [6] rfl rfl
          refine dq hF rfl (wn rfl) rfl rfl (fun w => R.move (hF.ev rfl)) fun a hF => ?_
          refine dq hF rfl (wn rfl) rfl rfl (fun w => R.extract (hF.ev rfl) rfl) fun a hF => ?_
          refine dq hF rfl (wn rfl) rfl rfl (fun w => R.extract (hF.ev rfl) rfl) fun a hF => ?_
          refine dq hF rfl (wn rfl) rfl rfl (fun w => R.extract (hF.ev rfl) rfl) fun a hF => ?_
          refine dl rfl (wn rfl) (O.storeW sz39 (hF.ev rfl) (hF.ev rfl) (rfl) rfl (by simp [Value.oneCell']) hS (.t .h) (rfl) fun w hS => ⟨fun hD => hS.sel [6] rfl rfl, ?_⟩)
          have hD := hS.sel [6] rfl rfl
          refine dq hF rfl (wn rfl) rfl rfl (fun w => R.assign (hF.ev rfl)) fun a hF => ?_
          refine dq hF rfl (wn rfl) rfl rfl (fun w => R.assign (hF.ev rfl)) fun a hF => ?_
          refine d0 ?_
          refine then_n (hK5 _ _ ?_)
          refine wp_seq_k fun K9 hK9 => ?_
          refine wp_region_lit ?_
          refine sv' hF (wn rfl) rfl rfl (R.move (hF.ev rfl)) fun a hF => ?_
          refine sv' hF (wn rfl) rfl rfl (R.buildStr (l := callc (nestF (some ⟨b23, 0, none⟩) 11 nest0)) Try.underlying34 ze34 pl34 (hF.evp rfl) (by kernel_rfl)) fun a hF => ?_
          refine sv' hF (wn rfl) rfl rfl (R.buildStr (l := plays (nestF (some ⟨b23, 0, none⟩) 11 nest0)) Try.underlying37 ze37 pl37 (hF.evp rfl) (by kernel_rfl)) fun a hF => ?_
          refine so (wn rfl) (O.call rfl rfl hF ent15 (hF.evs rfl) hS (play0 (nestF (some ⟨b23, 0, none⟩) 11 nest0) w (nest_in (Rd.own0 hS (.t (.t (.t .h)))) nest0_byt (Nat.le_refl _) (by decide) (by decide))) fun v s36 a w hR hF hS => ?_)
          obtain ⟨A36, c36, rfl, hO36⟩ := hR
          refine s0 ?_
          refine then_n (hK9 _ _ ?_)
          refine wp_seq_k fun K10 hK10 => ?_
          refine wp_region_lit ?_
          refine sv' hF (wn rfl) rfl rfl (R.loadW agg37 (hF.ev rfl) hS (.t (.t (.t (.t (.t (.t (.t .h))))))) sz37 (rfl)) fun a hF => ?_
          refine so (wn rfl) (O.call rfl rfl hF ent15 (hF.evs rfl) hS (play0 F w (hp.old hS)) fun v s39 a w hR hF hS => ?_)
          obtain ⟨A39, c39, rfl, hO39⟩ := hR
          refine sv' hF (wn rfl) rfl rfl (R.move (hF.ev rfl)) fun a hF => ?_
          refine sv' hF (wn rfl) rfl rfl (R.extract (hF.ev rfl) rfl) fun a hF => ?_
          refine sv' hF (wn rfl) rfl rfl (R.extract (hF.ev rfl) rfl) fun a hF => ?_
          refine sv' hF (wn rfl) rfl rfl (R.extract (hF.ev rfl) rfl) fun a hF => ?_
          refine so (wn rfl) (O.alloc rfl rfl hF ze39 rfl hS fun b11 a w hF hS => ?_)
          refine so (wn rfl) (O.storeW sz39 (hF.ev rfl) (hF.ev rfl) (rfl) rfl (by simp [Value.oneCell']) hS .h (rfl) fun w hS => ?_)
          refine sv' hF (wn rfl) rfl rfl (R.assign (hF.ev rfl)) fun a hF => ?_
          refine sv' hF (wn rfl) rfl rfl (R.assign (hF.ev rfl)) fun a hF => ?_
          refine s0 ?_
          refine then_n (hK10 _ _ ?_)
          refine wp_seq_k fun K11 hK11 => ?_
          refine wp_region_lit ?_
          refine sv' hF (wn rfl) rfl rfl (R.loadW agg39 (hF.ev rfl) hS (.t (.t (.t (.t (.t (.t (.t .h))))))) sz39 (rfl)) fun a hF => ?_
          refine sv' hF (wn rfl) rfl rfl (R.loadW agg39 (hF.ev rfl) hS (.t (.t (.t (.t .h)))) sz39 (rfl)) fun a hF => ?_
          refine sv' hF (wn rfl) rfl rfl (R.as (u := .bool true) (R.eqlAgg (hF.ev rfl) (hF.ev rfl) (ran_eq _ _) eg39) (rfl)) fun a hF => ?_
          refine sv' hF (wn rfl) rfl rfl (R.move (hF.ev rfl)) fun a hF => ?_
          refine sv' hF (wy hF rfl rfl rfl) rfl rfl (R.loadW agg39 (hF.ev rfl) hS (.t (.t (.t (.t .h)))) sz39 (rfl)) fun a hF => ?_
          refine sv' hF (wy hF rfl rfl rfl) rfl rfl (R.loadW agg39 (hF.ev rfl) hS .h sz39 (rfl)) fun a hF => ?_
          refine sv' hF (wy hF rfl rfl rfl) rfl rfl (R.as (u := .bool true) (R.eqlAgg (hF.ev rfl) (hF.ev rfl) (ran_eq _ _) eg39) (rfl)) fun a hF => ?_
          refine sv' hF (wn rfl) rfl rfl (R.pickT (hF.ev rfl) (hF.ev rfl)) fun a hF => ?_
          refine sv' hF (wn rfl) rfl rfl (R.move (hF.ev rfl)) fun a hF => ?_
          refine sv' hF (wy hF rfl rfl rfl) rfl rfl (R.move (hF.ev rfl)) fun a hF => ?_
          refine sv' hF (wy hF rfl rfl rfl) rfl rfl (R.move (hF.ev rfl)) fun a hF => ?_
          refine sv' hF (wy hF rfl rfl rfl) rfl rfl (R.as (u := .bool true) (R.eql (p := (playN F.cl F.code F.rep).e) (q := (playN F.cl F.code F.rep).e) (hF.ev rfl) (hF.ev rfl)) (congrArg Value.bool (decide_eq_true (rfl)))) fun a hF => ?_
          refine sv' hF (wn rfl) rfl rfl (R.pickT (hF.ev rfl) (hF.ev rfl)) fun a hF => ?_
          refine sv' hF (wn rfl) rfl rfl (R.move (hF.ev rfl)) fun a hF => ?_
          refine sv' hF (wy hF rfl rfl rfl) rfl rfl (R.move (hF.ev rfl)) fun a hF => ?_
          refine sv' hF (wy hF rfl rfl rfl) rfl rfl (R.move (hF.ev rfl)) fun a hF => ?_
          refine sv' hF (wy hF rfl rfl rfl) rfl rfl (R.as (u := .bool true) (R.eql (p := (playN F.cl F.code F.rep).e) (q := (playN F.cl F.code F.rep).e) (hF.ev rfl) (hF.ev rfl)) (congrArg Value.bool (decide_eq_true (rfl)))) fun a hF => ?_
          refine sv' hF (wn rfl) rfl rfl (R.pickT (hF.ev rfl) (hF.ev rfl)) fun a hF => ?_
          refine sv' hF (wn rfl) rfl rfl (R.move (hF.ev rfl)) fun a hF => ?_
          refine sv' hF (wy hF rfl rfl rfl) rfl rfl (R.move (hF.ev rfl)) fun a hF => ?_
          refine sv' hF (wy hF rfl rfl rfl) rfl rfl (R.move (hF.ev rfl)) fun a hF => ?_
          refine so (wy hF rfl rfl rfl) (O.call rfl rfl hF ent16 (hF.evs rfl) hS (sameAsks_calls A16 A29 c16 c29 (playN F.cl F.code F.rep).asks w (hO16.rd hS (.t (.t (.t (.t (.t (.t (.t (.t .h))))))))) (hO29.rd hS (.t (.t (.t .h)))) (Nat.le_trans hO16.2.1 hO16.cap)) fun v s64 a w hR hF hS => ?_)
          obtain ⟨rfl, rfl⟩ := hR
          refine sv' hF (wn rfl) rfl rfl (R.pickT (hF.ev rfl) (hF.ev rfl)) fun a hF => ?_
          refine sv' hF (wn rfl) rfl rfl (R.move (hF.ev rfl)) fun a hF => ?_
          refine sv' hF (wy hF rfl rfl rfl) rfl rfl (R.move (hF.ev rfl)) fun a hF => ?_
          refine sv' hF (wy hF rfl rfl rfl) rfl rfl (R.move (hF.ev rfl)) fun a hF => ?_
          refine so (wy hF rfl rfl rfl) (O.call rfl rfl hF ent16 (hF.evs rfl) hS (sameAsks_calls A29 A39 c29 c39 (playN F.cl F.code F.rep).asks w (hO29.rd hS (.t (.t (.t (.t .h))))) (hO39.rd hS (.t (.t .h))) (Nat.le_trans hO29.2.1 hO29.cap)) fun v s69 a w hR hF hS => ?_)
          obtain ⟨rfl, rfl⟩ := hR
          refine sv' hF (wn rfl) rfl rfl (R.pickT (hF.ev rfl) (hF.ev rfl)) fun a hF => ?_
          refine sv' hF (wn rfl) rfl rfl (R.move (hF.ev rfl)) fun a hF => ?_
          refine so (wy hF rfl rfl rfl) (O.call rfl rfl hF ent11 (hF.evs rfl) hS (alive_calls _) fun v s72 a w hR hF hS => ?_)
          obtain ⟨rfl, rfl⟩ := hR
          refine sv' hF (wn rfl) rfl rfl (R.pickT (hF.ev rfl) (hF.ev rfl)) fun a hF => ?_
          refine sv' hF (wn rfl) rfl rfl (R.assign (hF.ev rfl)) fun a hF => ?_
          refine s0 ?_
          refine then_n (hK11 _ _ ?_)
          refine wp_ret (hR _ _ _ _ _ hF (run_results Try.results8 (.t hF rfl (.nil))) ?_)
          exact ⟨_, [], rfl, ⟨rfl, rfl⟩, hS.none⟩
      ·
        refine dl rfl (wn rfl) (O.alloc rfl rfl hF ze39 rfl hS fun b8 a w hF hS => ⟨fun hD => hS.sel [5] rfl rfl, ?_⟩)
        have hD := hS.sel [5] rfl rfl
        refine dl rfl (wn rfl) (O.appendO rfl rfl hF Try.underlying23 inf5 rfl rfl (by decide) (hF.ev rfl) (hF.ev rfl) hS (own_nil5 b26) (fun _ => (.t .h)) (Rd.own0 (l := byts nest0) hS (.t (.t .h))) (rfl) (byts_one _) (by unfold maxLen; omega) (by omega) fun A28 c28 s28 a w hO28 hF hS => ⟨fun hD => hS.sel [5] rfl rfl, ?_⟩)
        have hD := hS.sel [5] rfl rfl
        rw [Nat.zero_add] at hF hO28; rw [show byts [] = [] from rfl, List.nil_append] at hO28
        refine dl rfl (wn rfl) (O.call rfl rfl hF ent15 (hF.evs rfl) hS (playI F A28 c28 nest0 w (hp.old hS) (hO28.rd hS (.t .h)) nest0_byt hO28.2.1 hO28.cap) fun v s29 a w hR hF hS => ⟨fun hD => hS.sel [6] rfl rfl, ?_⟩)
        obtain ⟨A29, c29, rfl, hO29⟩ := hR
        have hD := hS.sel [6] rfl rfl
        refine dq hF rfl (wn rfl) rfl rfl (fun w => R.move (hF.ev rfl)) fun a hF => ?_
        refine dq hF rfl (wn rfl) rfl rfl (fun w => R.extract (hF.ev rfl) rfl) fun a hF => ?_
        refine dq hF rfl (wn rfl) rfl rfl (fun w => R.extract (hF.ev rfl) rfl) fun a hF => ?_
        refine dq hF rfl (wn rfl) rfl rfl (fun w => R.extract (hF.ev rfl) rfl) fun a hF => ?_
        refine dl rfl (wn rfl) (O.storeW sz39 (hF.ev rfl) (hF.ev rfl) (rfl) rfl (by simp [Value.oneCell']) hS (.t .h) (rfl) fun w hS => ⟨fun hD => hS.sel [6] rfl rfl, ?_⟩)
        have hD := hS.sel [6] rfl rfl
        refine dq hF rfl (wn rfl) rfl rfl (fun w => R.assign (hF.ev rfl)) fun a hF => ?_
        refine dq hF rfl (wn rfl) rfl rfl (fun w => R.assign (hF.ev rfl)) fun a hF => ?_
        refine d0 ?_
        refine then_n (hK5 _ _ ?_)
        refine wp_seq_k fun K12 hK12 => ?_
        refine wp_region_lit ?_
        refine sv' hF (wn rfl) rfl rfl (R.move (hF.ev rfl)) fun a hF => ?_
        refine sv' hF (wn rfl) rfl rfl (R.buildStr (l := callc (nestF (some ⟨b23, 0, none⟩) 11 nest0)) Try.underlying34 ze34 pl34 (hF.evp rfl) (by kernel_rfl)) fun a hF => ?_
        refine sv' hF (wn rfl) rfl rfl (R.buildStr (l := plays (nestF (some ⟨b23, 0, none⟩) 11 nest0)) Try.underlying37 ze37 pl37 (hF.evp rfl) (by kernel_rfl)) fun a hF => ?_
        refine so (wn rfl) (O.call rfl rfl hF ent15 (hF.evs rfl) hS (play0 (nestF (some ⟨b23, 0, none⟩) 11 nest0) w (nest_in (Rd.own0 hS (.t (.t (.t .h)))) nest0_byt (Nat.le_refl _) (by decide) (by decide))) fun v s36 a w hR hF hS => ?_)
        obtain ⟨A36, c36, rfl, hO36⟩ := hR
        refine s0 ?_
        refine then_n (hK12 _ _ ?_)
        refine wp_seq_k fun K13 hK13 => ?_
        refine wp_region_lit ?_
        refine sv' hF (wn rfl) rfl rfl (R.loadW agg37 (hF.ev rfl) hS (.t (.t (.t (.t (.t (.t (.t .h))))))) sz37 (rfl)) fun a hF => ?_
        refine so (wn rfl) (O.call rfl rfl hF ent15 (hF.evs rfl) hS (play0 F w (hp.old hS)) fun v s39 a w hR hF hS => ?_)
        obtain ⟨A39, c39, rfl, hO39⟩ := hR
        refine sv' hF (wn rfl) rfl rfl (R.move (hF.ev rfl)) fun a hF => ?_
        refine sv' hF (wn rfl) rfl rfl (R.extract (hF.ev rfl) rfl) fun a hF => ?_
        refine sv' hF (wn rfl) rfl rfl (R.extract (hF.ev rfl) rfl) fun a hF => ?_
        refine sv' hF (wn rfl) rfl rfl (R.extract (hF.ev rfl) rfl) fun a hF => ?_
        refine so (wn rfl) (O.alloc rfl rfl hF ze39 rfl hS fun b11 a w hF hS => ?_)
        refine so (wn rfl) (O.storeW sz39 (hF.ev rfl) (hF.ev rfl) (rfl) rfl (by simp [Value.oneCell']) hS .h (rfl) fun w hS => ?_)
        refine sv' hF (wn rfl) rfl rfl (R.assign (hF.ev rfl)) fun a hF => ?_
        refine sv' hF (wn rfl) rfl rfl (R.assign (hF.ev rfl)) fun a hF => ?_
        refine s0 ?_
        refine then_n (hK13 _ _ ?_)
        refine wp_seq_k fun K14 hK14 => ?_
        refine wp_region_lit ?_
        refine sv' hF (wn rfl) rfl rfl (R.loadW agg39 (hF.ev rfl) hS (.t (.t (.t (.t (.t (.t (.t .h))))))) sz39 (rfl)) fun a hF => ?_
        refine sv' hF (wn rfl) rfl rfl (R.loadW agg39 (hF.ev rfl) hS (.t (.t (.t (.t .h)))) sz39 (rfl)) fun a hF => ?_
        refine sv' hF (wn rfl) rfl rfl (R.as (u := .bool true) (R.eqlAgg (hF.ev rfl) (hF.ev rfl) (ran_eq _ _) eg39) (rfl)) fun a hF => ?_
        refine sv' hF (wn rfl) rfl rfl (R.move (hF.ev rfl)) fun a hF => ?_
        refine sv' hF (wy hF rfl rfl rfl) rfl rfl (R.loadW agg39 (hF.ev rfl) hS (.t (.t (.t (.t .h)))) sz39 (rfl)) fun a hF => ?_
        refine sv' hF (wy hF rfl rfl rfl) rfl rfl (R.loadW agg39 (hF.ev rfl) hS .h sz39 (rfl)) fun a hF => ?_
        refine sv' hF (wy hF rfl rfl rfl) rfl rfl (R.as (u := .bool true) (R.eqlAgg (hF.ev rfl) (hF.ev rfl) (ran_eq _ _) eg39) (rfl)) fun a hF => ?_
        refine sv' hF (wn rfl) rfl rfl (R.pickT (hF.ev rfl) (hF.ev rfl)) fun a hF => ?_
        refine sv' hF (wn rfl) rfl rfl (R.move (hF.ev rfl)) fun a hF => ?_
        refine sv' hF (wy hF rfl rfl rfl) rfl rfl (R.move (hF.ev rfl)) fun a hF => ?_
        refine sv' hF (wy hF rfl rfl rfl) rfl rfl (R.move (hF.ev rfl)) fun a hF => ?_
        refine sv' hF (wy hF rfl rfl rfl) rfl rfl (R.as (u := .bool true) (R.eql (p := (playN F.cl F.code F.rep).e) (q := (playN F.cl F.code F.rep).e) (hF.ev rfl) (hF.ev rfl)) (congrArg Value.bool (decide_eq_true (rfl)))) fun a hF => ?_
        refine sv' hF (wn rfl) rfl rfl (R.pickT (hF.ev rfl) (hF.ev rfl)) fun a hF => ?_
        refine sv' hF (wn rfl) rfl rfl (R.move (hF.ev rfl)) fun a hF => ?_
        refine sv' hF (wy hF rfl rfl rfl) rfl rfl (R.move (hF.ev rfl)) fun a hF => ?_
        refine sv' hF (wy hF rfl rfl rfl) rfl rfl (R.move (hF.ev rfl)) fun a hF => ?_
        refine sv' hF (wy hF rfl rfl rfl) rfl rfl (R.as (u := .bool true) (R.eql (p := (playN F.cl F.code F.rep).e) (q := (playN F.cl F.code F.rep).e) (hF.ev rfl) (hF.ev rfl)) (congrArg Value.bool (decide_eq_true (rfl)))) fun a hF => ?_
        refine sv' hF (wn rfl) rfl rfl (R.pickT (hF.ev rfl) (hF.ev rfl)) fun a hF => ?_
        refine sv' hF (wn rfl) rfl rfl (R.move (hF.ev rfl)) fun a hF => ?_
        refine sv' hF (wy hF rfl rfl rfl) rfl rfl (R.move (hF.ev rfl)) fun a hF => ?_
        refine sv' hF (wy hF rfl rfl rfl) rfl rfl (R.move (hF.ev rfl)) fun a hF => ?_
        refine so (wy hF rfl rfl rfl) (O.call rfl rfl hF ent16 (hF.evs rfl) hS (sameAsks_calls A16 A29 c16 c29 (playN F.cl F.code F.rep).asks w (hO16.rd hS (.t (.t (.t (.t (.t (.t (.t (.t .h))))))))) (hO29.rd hS (.t (.t (.t .h)))) (Nat.le_trans hO16.2.1 hO16.cap)) fun v s64 a w hR hF hS => ?_)
        obtain ⟨rfl, rfl⟩ := hR
        refine sv' hF (wn rfl) rfl rfl (R.pickT (hF.ev rfl) (hF.ev rfl)) fun a hF => ?_
        refine sv' hF (wn rfl) rfl rfl (R.move (hF.ev rfl)) fun a hF => ?_
        refine sv' hF (wy hF rfl rfl rfl) rfl rfl (R.move (hF.ev rfl)) fun a hF => ?_
        refine sv' hF (wy hF rfl rfl rfl) rfl rfl (R.move (hF.ev rfl)) fun a hF => ?_
        refine so (wy hF rfl rfl rfl) (O.call rfl rfl hF ent16 (hF.evs rfl) hS (sameAsks_calls A29 A39 c29 c39 (playN F.cl F.code F.rep).asks w (hO29.rd hS (.t (.t (.t (.t .h))))) (hO39.rd hS (.t (.t .h))) (Nat.le_trans hO29.2.1 hO29.cap)) fun v s69 a w hR hF hS => ?_)
        obtain ⟨rfl, rfl⟩ := hR
        refine sv' hF (wn rfl) rfl rfl (R.pickT (hF.ev rfl) (hF.ev rfl)) fun a hF => ?_
        refine sv' hF (wn rfl) rfl rfl (R.move (hF.ev rfl)) fun a hF => ?_
        refine so (wy hF rfl rfl rfl) (O.call rfl rfl hF ent11 (hF.evs rfl) hS (alive_calls _) fun v s72 a w hR hF hS => ?_)
        obtain ⟨rfl, rfl⟩ := hR
        refine sv' hF (wn rfl) rfl rfl (R.pickT (hF.ev rfl) (hF.ev rfl)) fun a hF => ?_
        refine sv' hF (wn rfl) rfl rfl (R.assign (hF.ev rfl)) fun a hF => ?_
        refine s0 ?_
        refine then_n (hK14 _ _ ?_)
        refine wp_ret (hR _ _ _ _ _ hF (run_results Try.results8 (.t hF rfl (.nil))) ?_)
        exact ⟨_, [], rfl, ⟨rfl, rfl⟩, hS.none⟩
    ·
      refine dl rfl (wn rfl) (O.alloc rfl rfl hF ze39 rfl hS fun b8 a w hF hS => ⟨fun hD => hS.sel [4] rfl rfl, ?_⟩)
      have hD := hS.sel [4] rfl rfl
      refine dl rfl (wn rfl) (O.buildSlice (l := []) rfl rfl hF Try.underlying23 inf5 rfl rfl (hF.evp rfl) (by decide) rfl hS fun b26 a w hF hS => ⟨fun hD => hS.sel [5] rfl rfl, ?_⟩)
      have hD := hS.sel [5] rfl rfl
      refine dl rfl (wn rfl) (O.appendO rfl rfl hF Try.underlying23 inf5 rfl rfl (by decide) (hF.ev rfl) (hF.ev rfl) hS (own_nil5 b26) (fun _ => .h) (Rd.own0 (l := byts nest0) hS (.t (.t .h))) (rfl) (byts_one _) (by unfold maxLen; omega) (by omega) fun A28 c28 s28 a w hO28 hF hS => ⟨fun hD => hS.sel [5] rfl rfl, ?_⟩)
      have hD := hS.sel [5] rfl rfl
      rw [Nat.zero_add] at hF hO28; rw [show byts [] = [] from rfl, List.nil_append] at hO28
      refine dl rfl (wn rfl) (O.call rfl rfl hF ent15 (hF.evs rfl) hS (playI F A28 c28 nest0 w (hp.old hS) (hO28.rd hS .h) nest0_byt hO28.2.1 hO28.cap) fun v s29 a w hR hF hS => ⟨fun hD => hS.sel [6] rfl rfl, ?_⟩)
      obtain ⟨A29, c29, rfl, hO29⟩ := hR
      have hD := hS.sel [6] rfl rfl
      refine dq hF rfl (wn rfl) rfl rfl (fun w => R.move (hF.ev rfl)) fun a hF => ?_
      refine dq hF rfl (wn rfl) rfl rfl (fun w => R.extract (hF.ev rfl) rfl) fun a hF => ?_
      refine dq hF rfl (wn rfl) rfl rfl (fun w => R.extract (hF.ev rfl) rfl) fun a hF => ?_
      refine dq hF rfl (wn rfl) rfl rfl (fun w => R.extract (hF.ev rfl) rfl) fun a hF => ?_
      refine dl rfl (wn rfl) (O.storeW sz39 (hF.ev rfl) (hF.ev rfl) (rfl) rfl (by simp [Value.oneCell']) hS (.t (.t .h)) (rfl) fun w hS => ⟨fun hD => hS.sel [6] rfl rfl, ?_⟩)
      have hD := hS.sel [6] rfl rfl
      refine dq hF rfl (wn rfl) rfl rfl (fun w => R.assign (hF.ev rfl)) fun a hF => ?_
      refine dq hF rfl (wn rfl) rfl rfl (fun w => R.assign (hF.ev rfl)) fun a hF => ?_
      refine d0 ?_
      refine then_n (hK5 _ _ ?_)
      refine wp_seq_k fun K15 hK15 => ?_
      refine wp_region_lit ?_
      refine sv' hF (wn rfl) rfl rfl (R.move (hF.ev rfl)) fun a hF => ?_
      refine sv' hF (wn rfl) rfl rfl (R.buildStr (l := callc (nestF (some ⟨b23, 0, none⟩) 11 nest0)) Try.underlying34 ze34 pl34 (hF.evp rfl) (by kernel_rfl)) fun a hF => ?_
      refine sv' hF (wn rfl) rfl rfl (R.buildStr (l := plays (nestF (some ⟨b23, 0, none⟩) 11 nest0)) Try.underlying37 ze37 pl37 (hF.evp rfl) (by kernel_rfl)) fun a hF => ?_
      refine so (wn rfl) (O.call rfl rfl hF ent15 (hF.evs rfl) hS (play0 (nestF (some ⟨b23, 0, none⟩) 11 nest0) w (nest_in (Rd.own0 hS (.t (.t (.t .h)))) nest0_byt (Nat.le_refl _) (by decide) (by decide))) fun v s36 a w hR hF hS => ?_)
      obtain ⟨A36, c36, rfl, hO36⟩ := hR
      refine s0 ?_
      refine then_n (hK15 _ _ ?_)
      refine wp_seq_k fun K16 hK16 => ?_
      refine wp_region_lit ?_
      refine sv' hF (wn rfl) rfl rfl (R.loadW agg37 (hF.ev rfl) hS (.t (.t (.t (.t (.t (.t (.t .h))))))) sz37 (rfl)) fun a hF => ?_
      refine so (wn rfl) (O.call rfl rfl hF ent15 (hF.evs rfl) hS (play0 F w (hp.old hS)) fun v s39 a w hR hF hS => ?_)
      obtain ⟨A39, c39, rfl, hO39⟩ := hR
      refine sv' hF (wn rfl) rfl rfl (R.move (hF.ev rfl)) fun a hF => ?_
      refine sv' hF (wn rfl) rfl rfl (R.extract (hF.ev rfl) rfl) fun a hF => ?_
      refine sv' hF (wn rfl) rfl rfl (R.extract (hF.ev rfl) rfl) fun a hF => ?_
      refine sv' hF (wn rfl) rfl rfl (R.extract (hF.ev rfl) rfl) fun a hF => ?_
      refine so (wn rfl) (O.alloc rfl rfl hF ze39 rfl hS fun b11 a w hF hS => ?_)
      refine so (wn rfl) (O.storeW sz39 (hF.ev rfl) (hF.ev rfl) (rfl) rfl (by simp [Value.oneCell']) hS .h (rfl) fun w hS => ?_)
      refine sv' hF (wn rfl) rfl rfl (R.assign (hF.ev rfl)) fun a hF => ?_
      refine sv' hF (wn rfl) rfl rfl (R.assign (hF.ev rfl)) fun a hF => ?_
      refine s0 ?_
      refine then_n (hK16 _ _ ?_)
      refine wp_seq_k fun K17 hK17 => ?_
      refine wp_region_lit ?_
      refine sv' hF (wn rfl) rfl rfl (R.loadW agg39 (hF.ev rfl) hS (.t (.t (.t (.t (.t (.t (.t .h))))))) sz39 (rfl)) fun a hF => ?_
      refine sv' hF (wn rfl) rfl rfl (R.loadW agg39 (hF.ev rfl) hS (.t (.t (.t (.t (.t .h))))) sz39 (rfl)) fun a hF => ?_
      refine sv' hF (wn rfl) rfl rfl (R.as (u := .bool true) (R.eqlAgg (hF.ev rfl) (hF.ev rfl) (ran_eq _ _) eg39) (rfl)) fun a hF => ?_
      refine sv' hF (wn rfl) rfl rfl (R.move (hF.ev rfl)) fun a hF => ?_
      refine sv' hF (wy hF rfl rfl rfl) rfl rfl (R.loadW agg39 (hF.ev rfl) hS (.t (.t (.t (.t (.t .h))))) sz39 (rfl)) fun a hF => ?_
      refine sv' hF (wy hF rfl rfl rfl) rfl rfl (R.loadW agg39 (hF.ev rfl) hS .h sz39 (rfl)) fun a hF => ?_
      refine sv' hF (wy hF rfl rfl rfl) rfl rfl (R.as (u := .bool true) (R.eqlAgg (hF.ev rfl) (hF.ev rfl) (ran_eq _ _) eg39) (rfl)) fun a hF => ?_
      refine sv' hF (wn rfl) rfl rfl (R.pickT (hF.ev rfl) (hF.ev rfl)) fun a hF => ?_
      refine sv' hF (wn rfl) rfl rfl (R.move (hF.ev rfl)) fun a hF => ?_
      refine sv' hF (wy hF rfl rfl rfl) rfl rfl (R.move (hF.ev rfl)) fun a hF => ?_
      refine sv' hF (wy hF rfl rfl rfl) rfl rfl (R.move (hF.ev rfl)) fun a hF => ?_
      refine sv' hF (wy hF rfl rfl rfl) rfl rfl (R.as (u := .bool true) (R.eql (p := (playN F.cl F.code F.rep).e) (q := (playN F.cl F.code F.rep).e) (hF.ev rfl) (hF.ev rfl)) (congrArg Value.bool (decide_eq_true (rfl)))) fun a hF => ?_
      refine sv' hF (wn rfl) rfl rfl (R.pickT (hF.ev rfl) (hF.ev rfl)) fun a hF => ?_
      refine sv' hF (wn rfl) rfl rfl (R.move (hF.ev rfl)) fun a hF => ?_
      refine sv' hF (wy hF rfl rfl rfl) rfl rfl (R.move (hF.ev rfl)) fun a hF => ?_
      refine sv' hF (wy hF rfl rfl rfl) rfl rfl (R.move (hF.ev rfl)) fun a hF => ?_
      refine sv' hF (wy hF rfl rfl rfl) rfl rfl (R.as (u := .bool true) (R.eql (p := (playN F.cl F.code F.rep).e) (q := (playN F.cl F.code F.rep).e) (hF.ev rfl) (hF.ev rfl)) (congrArg Value.bool (decide_eq_true (rfl)))) fun a hF => ?_
      refine sv' hF (wn rfl) rfl rfl (R.pickT (hF.ev rfl) (hF.ev rfl)) fun a hF => ?_
      refine sv' hF (wn rfl) rfl rfl (R.move (hF.ev rfl)) fun a hF => ?_
      refine sv' hF (wy hF rfl rfl rfl) rfl rfl (R.move (hF.ev rfl)) fun a hF => ?_
      refine sv' hF (wy hF rfl rfl rfl) rfl rfl (R.move (hF.ev rfl)) fun a hF => ?_
      refine so (wy hF rfl rfl rfl) (O.call rfl rfl hF ent16 (hF.evs rfl) hS (sameAsks_calls A16 A29 c16 c29 (playN F.cl F.code F.rep).asks w (hO16.rd hS (.t (.t (.t (.t (.t (.t (.t (.t .h))))))))) (hO29.rd hS (.t (.t (.t .h)))) (Nat.le_trans hO16.2.1 hO16.cap)) fun v s64 a w hR hF hS => ?_)
      obtain ⟨rfl, rfl⟩ := hR
      refine sv' hF (wn rfl) rfl rfl (R.pickT (hF.ev rfl) (hF.ev rfl)) fun a hF => ?_
      refine sv' hF (wn rfl) rfl rfl (R.move (hF.ev rfl)) fun a hF => ?_
      refine sv' hF (wy hF rfl rfl rfl) rfl rfl (R.move (hF.ev rfl)) fun a hF => ?_
      refine sv' hF (wy hF rfl rfl rfl) rfl rfl (R.move (hF.ev rfl)) fun a hF => ?_
      refine so (wy hF rfl rfl rfl) (O.call rfl rfl hF ent16 (hF.evs rfl) hS (sameAsks_calls A29 A39 c29 c39 (playN F.cl F.code F.rep).asks w (hO29.rd hS (.t (.t (.t (.t .h))))) (hO39.rd hS (.t (.t .h))) (Nat.le_trans hO29.2.1 hO29.cap)) fun v s69 a w hR hF hS => ?_)
      obtain ⟨rfl, rfl⟩ := hR
      refine sv' hF (wn rfl) rfl rfl (R.pickT (hF.ev rfl) (hF.ev rfl)) fun a hF => ?_
      refine sv' hF (wn rfl) rfl rfl (R.move (hF.ev rfl)) fun a hF => ?_
      refine so (wy hF rfl rfl rfl) (O.call rfl rfl hF ent11 (hF.evs rfl) hS (alive_calls _) fun v s72 a w hR hF hS => ?_)
      obtain ⟨rfl, rfl⟩ := hR
      refine sv' hF (wn rfl) rfl rfl (R.pickT (hF.ev rfl) (hF.ev rfl)) fun a hF => ?_
      refine sv' hF (wn rfl) rfl rfl (R.assign (hF.ev rfl)) fun a hF => ?_
      refine s0 ?_
      refine then_n (hK17 _ _ ?_)
      refine wp_ret (hR _ _ _ _ _ hF (run_results Try.results8 (.t hF rfl (.nil))) ?_)
      exact ⟨_, [], rfl, ⟨rfl, rfl⟩, hS.none⟩
  ·
    refine wp_skip ?_
    refine then_n (hK3 _ _ ?_)
    refine wp_seq_k fun K18 hK18 => ?_
    refine wp_drawN hS (hS.sel [2] rfl rfl) [(0, 1), (2, 0), (1, 2), (3, 2), (4, 2), (5, 0), (6, 0), (7, 0), (8, 0), (9, 2), (10, 2), (11, 0), (12, 0)] (.node [(0, 1), (2, 0)] (.node [(1, 2)] (.node [(3, 2)] (.leaf [(4, 2), (5, 0), (6, 0), (7, 0), (8, 0), (9, 2), (10, 2), (11, 0), (12, 0)]) (.leaf [(9, 2), (4, 2), (5, 0), (6, 0), (7, 0), (8, 0), (10, 2), (11, 0), (12, 0)])) (.leaf [(9, 2), (3, 2), (4, 2), (5, 0), (6, 0), (7, 0), (8, 0), (10, 2), (11, 0), (12, 0)])) (.leaf [(9, 2), (1, 2), (3, 2), (4, 2), (5, 0), (6, 0), (7, 0), (8, 0), (10, 2), (11, 0), (12, 0)])) mix (by kernel_rfl) (hP.then) fun w hS hD => ?_
    refine dr hF rfl (wn rfl) rfl rfl hD (fun w hD => R.loadW agg37 (hF.ev rfl) hD .h sz37 (rfl)) fun a hF => ?_
    refine dq hF rfl (wn rfl) rfl rfl (fun w => R.move (hF.ev rfl)) fun a hF => ?_
    refine d0 ?_
    refine ⟨?_, ?_⟩
    ·
      refine dl rfl (wn rfl) (O.buildSlice (l := []) rfl rfl hF Try.underlying23 inf5 rfl rfl (hF.evp rfl) (by decide) rfl hS fun b26 a w hF hS => ⟨fun hD => hS.sel [3] rfl rfl, ?_⟩)
      have hD := hS.sel [3] rfl rfl
      refine d0 ?_
      refine ⟨?_, ?_⟩
      ·
        refine dl rfl (wn rfl) (O.appendO rfl rfl hF Try.underlying23 inf5 rfl rfl (by decide) (hF.ev rfl) (hF.ev rfl) hS (own_nil5 b26) (fun _ => .h) (hI.old hS) (by rw [length_byts, Nat.mul_one]) (byts_one _) (by unfold maxLen; omega) (by omega) fun A28 c28 s28 a w hO28 hF hS => ⟨fun hD => hS.sel [3] rfl rfl, ?_⟩)
        have hD := hS.sel [3] rfl rfl
        rw [Nat.zero_add] at hF hO28; rw [show byts [] = [] from rfl, List.nil_append] at hO28
        refine d0 ?_
        refine ⟨?_, ?_⟩
        ·
          refine dl rfl (wn rfl) (O.call rfl rfl hF ent15 (hF.evs rfl) hS (playI F A28 c28 xs w (hp.old hS) (hO28.rd hS .h) hB hO28.2.1 hO28.cap) fun v s29 a w hR hF hS => ⟨fun hD => hS.sel [4] rfl rfl, ?_⟩)
          obtain ⟨A29, c29, rfl, hO29⟩ := hR
          have hD := hS.sel [4] rfl rfl
          refine dq hF rfl (wn rfl) rfl rfl (fun w => R.move (hF.ev rfl)) fun a hF => ?_
          refine dq hF rfl (wn rfl) rfl rfl (fun w => R.extract (hF.ev rfl) rfl) fun a hF => ?_
          refine dq hF rfl (wn rfl) rfl rfl (fun w => R.extract (hF.ev rfl) rfl) fun a hF => ?_
          refine dq hF rfl (wn rfl) rfl rfl (fun w => R.extract (hF.ev rfl) rfl) fun a hF => ?_
          refine dl rfl (wn rfl) (O.alloc rfl rfl hF ze39 rfl hS fun b8 a w hF hS => ⟨fun hD => hS.sel [5] rfl rfl, ?_⟩)
          have hD := hS.sel [5] rfl rfl
          refine dl rfl (wn rfl) (O.storeW sz39 (hF.ev rfl) (hF.ev rfl) (rfl) rfl (by simp [Value.oneCell']) hS .h (rfl) fun w hS => ⟨fun hD => hS.sel [5] rfl rfl, ?_⟩)
          have hD := hS.sel [5] rfl rfl
          refine dq hF rfl (wn rfl) rfl rfl (fun w => R.assign (hF.ev rfl)) fun a hF => ?_
          refine dq hF rfl (wn rfl) rfl rfl (fun w => R.assign (hF.ev rfl)) fun a hF => ?_
          refine d0 ?_
          refine then_n (hK18 _ _ ?_)
          refine wp_seq_k fun K19 hK19 => ?_
          refine wp_region_lit ?_
          refine sv' hF (wn rfl) rfl rfl (R.move (hF.ev rfl)) fun a hF => ?_
          refine sv' hF (wn rfl) rfl rfl (R.buildStr (l := callc (nestF B c xs)) Try.underlying34 ze34 pl34 (hF.evp rfl) (by kernel_rfl)) fun a hF => ?_
          refine sv' hF (wn rfl) rfl rfl (R.buildStr (l := plays (nestF B c xs)) Try.underlying37 ze37 pl37 (hF.evp rfl) (by kernel_rfl)) fun a hF => ?_
          refine so (wn rfl) (O.call rfl rfl hF ent15 (hF.evs rfl) hS (play0 (nestF B c xs) w (nest_in (hI.old hS) hB (hc) (hc2) (hb))) fun v s36 a w hR hF hS => ?_)
          obtain ⟨A36, c36, rfl, hO36⟩ := hR
          refine s0 ?_
          refine then_n (hK19 _ _ ?_)
          refine wp_seq_k fun K20 hK20 => ?_
          refine wp_region_lit ?_
          refine sv' hF (wn rfl) rfl rfl (R.loadW agg37 (hF.ev rfl) hS (.t (.t (.t (.t (.t (.t .h)))))) sz37 (rfl)) fun a hF => ?_
          refine so (wn rfl) (O.call rfl rfl hF ent15 (hF.evs rfl) hS (play0 F w (hp.old hS)) fun v s39 a w hR hF hS => ?_)
          obtain ⟨A39, c39, rfl, hO39⟩ := hR
          refine sv' hF (wn rfl) rfl rfl (R.move (hF.ev rfl)) fun a hF => ?_
          refine sv' hF (wn rfl) rfl rfl (R.extract (hF.ev rfl) rfl) fun a hF => ?_
          refine sv' hF (wn rfl) rfl rfl (R.extract (hF.ev rfl) rfl) fun a hF => ?_
          refine sv' hF (wn rfl) rfl rfl (R.extract (hF.ev rfl) rfl) fun a hF => ?_
          refine so (wn rfl) (O.alloc rfl rfl hF ze39 rfl hS fun b11 a w hF hS => ?_)
          refine so (wn rfl) (O.storeW sz39 (hF.ev rfl) (hF.ev rfl) (rfl) rfl (by simp [Value.oneCell']) hS .h (rfl) fun w hS => ?_)
          refine sv' hF (wn rfl) rfl rfl (R.assign (hF.ev rfl)) fun a hF => ?_
          refine sv' hF (wn rfl) rfl rfl (R.assign (hF.ev rfl)) fun a hF => ?_
          refine s0 ?_
          refine then_n (hK20 _ _ ?_)
          refine wp_seq_k fun K21 hK21 => ?_
          refine wp_region_lit ?_
          refine sv' hF (wn rfl) rfl rfl (R.loadW agg39 (hF.ev rfl) hS (.t (.t (.t (.t (.t (.t .h)))))) sz39 (rfl)) fun a hF => ?_
          refine sv' hF (wn rfl) rfl rfl (R.loadW agg39 (hF.ev rfl) hS (.t (.t (.t .h))) sz39 (rfl)) fun a hF => ?_
          refine sv' hF (wn rfl) rfl rfl (R.as (u := .bool true) (R.eqlAgg (hF.ev rfl) (hF.ev rfl) (ran_eq _ _) eg39) (rfl)) fun a hF => ?_
          refine sv' hF (wn rfl) rfl rfl (R.move (hF.ev rfl)) fun a hF => ?_
          refine sv' hF (wy hF rfl rfl rfl) rfl rfl (R.loadW agg39 (hF.ev rfl) hS (.t (.t (.t .h))) sz39 (rfl)) fun a hF => ?_
          refine sv' hF (wy hF rfl rfl rfl) rfl rfl (R.loadW agg39 (hF.ev rfl) hS .h sz39 (rfl)) fun a hF => ?_
          refine sv' hF (wy hF rfl rfl rfl) rfl rfl (R.as (u := .bool true) (R.eqlAgg (hF.ev rfl) (hF.ev rfl) (ran_eq _ _) eg39) (rfl)) fun a hF => ?_
          refine sv' hF (wn rfl) rfl rfl (R.pickT (hF.ev rfl) (hF.ev rfl)) fun a hF => ?_
          refine sv' hF (wn rfl) rfl rfl (R.move (hF.ev rfl)) fun a hF => ?_
          refine sv' hF (wy hF rfl rfl rfl) rfl rfl (R.move (hF.ev rfl)) fun a hF => ?_
          refine sv' hF (wy hF rfl rfl rfl) rfl rfl (R.move (hF.ev rfl)) fun a hF => ?_
          refine sv' hF (wy hF rfl rfl rfl) rfl rfl (R.as (u := .bool true) (R.eql (p := (playN F.cl F.code F.rep).e) (q := (playN F.cl F.code F.rep).e) (hF.ev rfl) (hF.ev rfl)) (congrArg Value.bool (decide_eq_true (rfl)))) fun a hF => ?_
          refine sv' hF (wn rfl) rfl rfl (R.pickT (hF.ev rfl) (hF.ev rfl)) fun a hF => ?_
          refine sv' hF (wn rfl) rfl rfl (R.move (hF.ev rfl)) fun a hF => ?_
          refine sv' hF (wy hF rfl rfl rfl) rfl rfl (R.move (hF.ev rfl)) fun a hF => ?_
          refine sv' hF (wy hF rfl rfl rfl) rfl rfl (R.move (hF.ev rfl)) fun a hF => ?_
          refine sv' hF (wy hF rfl rfl rfl) rfl rfl (R.as (u := .bool true) (R.eql (p := (playN F.cl F.code F.rep).e) (q := (playN F.cl F.code F.rep).e) (hF.ev rfl) (hF.ev rfl)) (congrArg Value.bool (decide_eq_true (rfl)))) fun a hF => ?_
          refine sv' hF (wn rfl) rfl rfl (R.pickT (hF.ev rfl) (hF.ev rfl)) fun a hF => ?_
          refine sv' hF (wn rfl) rfl rfl (R.move (hF.ev rfl)) fun a hF => ?_
          refine sv' hF (wy hF rfl rfl rfl) rfl rfl (R.move (hF.ev rfl)) fun a hF => ?_
          refine sv' hF (wy hF rfl rfl rfl) rfl rfl (R.move (hF.ev rfl)) fun a hF => ?_
          refine so (wy hF rfl rfl rfl) (O.call rfl rfl hF ent16 (hF.evs rfl) hS (sameAsks_calls A16 A29 c16 c29 (playN F.cl F.code F.rep).asks w (hO16.rd hS (.t (.t (.t (.t (.t (.t (.t .h)))))))) (hO29.rd hS (.t (.t (.t (.t .h))))) (Nat.le_trans hO16.2.1 hO16.cap)) fun v s64 a w hR hF hS => ?_)
          obtain ⟨rfl, rfl⟩ := hR
          refine sv' hF (wn rfl) rfl rfl (R.pickT (hF.ev rfl) (hF.ev rfl)) fun a hF => ?_
          refine sv' hF (wn rfl) rfl rfl (R.move (hF.ev rfl)) fun a hF => ?_
          refine sv' hF (wy hF rfl rfl rfl) rfl rfl (R.move (hF.ev rfl)) fun a hF => ?_
          refine sv' hF (wy hF rfl rfl rfl) rfl rfl (R.move (hF.ev rfl)) fun a hF => ?_
          refine so (wy hF rfl rfl rfl) (O.call rfl rfl hF ent16 (hF.evs rfl) hS (sameAsks_calls A29 A39 c29 c39 (playN F.cl F.code F.rep).asks w (hO29.rd hS (.t (.t (.t (.t (.t .h)))))) (hO39.rd hS (.t (.t .h))) (Nat.le_trans hO29.2.1 hO29.cap)) fun v s69 a w hR hF hS => ?_)
          obtain ⟨rfl, rfl⟩ := hR
          refine sv' hF (wn rfl) rfl rfl (R.pickT (hF.ev rfl) (hF.ev rfl)) fun a hF => ?_
          refine sv' hF (wn rfl) rfl rfl (R.move (hF.ev rfl)) fun a hF => ?_
          refine so (wy hF rfl rfl rfl) (O.call rfl rfl hF ent11 (hF.evs rfl) hS (alive_calls _) fun v s72 a w hR hF hS => ?_)
          obtain ⟨rfl, rfl⟩ := hR
          refine sv' hF (wn rfl) rfl rfl (R.pickT (hF.ev rfl) (hF.ev rfl)) fun a hF => ?_
          refine sv' hF (wn rfl) rfl rfl (R.assign (hF.ev rfl)) fun a hF => ?_
          refine s0 ?_
          refine then_n (hK21 _ _ ?_)
          refine wp_ret (hR _ _ _ _ _ hF (run_results Try.results8 (.t hF rfl (.nil))) ?_)
          exact ⟨_, [], rfl, ⟨rfl, rfl⟩, hS.none⟩
        ·
          refine dl rfl (wn rfl) (O.alloc rfl rfl hF ze39 rfl hS fun b8 a w hF hS => ⟨fun hD => hS.sel [4] rfl rfl, ?_⟩)
          have hD := hS.sel [4] rfl rfl
          refine dl rfl (wn rfl) (O.call rfl rfl hF ent15 (hF.evs rfl) hS (playI F A28 c28 xs w (hp.old hS) (hO28.rd hS (.t .h)) hB hO28.2.1 hO28.cap) fun v s29 a w hR hF hS => ⟨fun hD => hS.sel [5] rfl rfl, ?_⟩)
          obtain ⟨A29, c29, rfl, hO29⟩ := hR
          have hD := hS.sel [5] rfl rfl
          refine dq hF rfl (wn rfl) rfl rfl (fun w => R.move (hF.ev rfl)) fun a hF => ?_
          refine dq hF rfl (wn rfl) rfl rfl (fun w => R.extract (hF.ev rfl) rfl) fun a hF => ?_
          refine dq hF rfl (wn rfl) rfl rfl (fun w => R.extract (hF.ev rfl) rfl) fun a hF => ?_
          refine dq hF rfl (wn rfl) rfl rfl (fun w => R.extract (hF.ev rfl) rfl) fun a hF => ?_
          refine dl rfl (wn rfl) (O.storeW sz39 (hF.ev rfl) (hF.ev rfl) (rfl) rfl (by simp [Value.oneCell']) hS (.t .h) (rfl) fun w hS => ⟨fun hD => hS.sel [5] rfl rfl, ?_⟩)
          have hD := hS.sel [5] rfl rfl
          refine dq hF rfl (wn rfl) rfl rfl (fun w => R.assign (hF.ev rfl)) fun a hF => ?_
          refine dq hF rfl (wn rfl) rfl rfl (fun w => R.assign (hF.ev rfl)) fun a hF => ?_
          refine d0 ?_
          refine then_n (hK18 _ _ ?_)
          refine wp_seq_k fun K22 hK22 => ?_
          refine wp_region_lit ?_
          refine sv' hF (wn rfl) rfl rfl (R.move (hF.ev rfl)) fun a hF => ?_
          refine sv' hF (wn rfl) rfl rfl (R.buildStr (l := callc (nestF B c xs)) Try.underlying34 ze34 pl34 (hF.evp rfl) (by kernel_rfl)) fun a hF => ?_
          refine sv' hF (wn rfl) rfl rfl (R.buildStr (l := plays (nestF B c xs)) Try.underlying37 ze37 pl37 (hF.evp rfl) (by kernel_rfl)) fun a hF => ?_
          refine so (wn rfl) (O.call rfl rfl hF ent15 (hF.evs rfl) hS (play0 (nestF B c xs) w (nest_in (hI.old hS) hB (hc) (hc2) (hb))) fun v s36 a w hR hF hS => ?_)
          obtain ⟨A36, c36, rfl, hO36⟩ := hR
          refine s0 ?_
          refine then_n (hK22 _ _ ?_)
          refine wp_seq_k fun K23 hK23 => ?_
          refine wp_region_lit ?_
          refine sv' hF (wn rfl) rfl rfl (R.loadW agg37 (hF.ev rfl) hS (.t (.t (.t (.t (.t (.t .h)))))) sz37 (rfl)) fun a hF => ?_
          refine so (wn rfl) (O.call rfl rfl hF ent15 (hF.evs rfl) hS (play0 F w (hp.old hS)) fun v s39 a w hR hF hS => ?_)
          obtain ⟨A39, c39, rfl, hO39⟩ := hR
          refine sv' hF (wn rfl) rfl rfl (R.move (hF.ev rfl)) fun a hF => ?_
          refine sv' hF (wn rfl) rfl rfl (R.extract (hF.ev rfl) rfl) fun a hF => ?_
          refine sv' hF (wn rfl) rfl rfl (R.extract (hF.ev rfl) rfl) fun a hF => ?_
          refine sv' hF (wn rfl) rfl rfl (R.extract (hF.ev rfl) rfl) fun a hF => ?_
          refine so (wn rfl) (O.alloc rfl rfl hF ze39 rfl hS fun b11 a w hF hS => ?_)
          refine so (wn rfl) (O.storeW sz39 (hF.ev rfl) (hF.ev rfl) (rfl) rfl (by simp [Value.oneCell']) hS .h (rfl) fun w hS => ?_)
          refine sv' hF (wn rfl) rfl rfl (R.assign (hF.ev rfl)) fun a hF => ?_
          refine sv' hF (wn rfl) rfl rfl (R.assign (hF.ev rfl)) fun a hF => ?_
          refine s0 ?_
          refine then_n (hK23 _ _ ?_)
          refine wp_seq_k fun K24 hK24 => ?_
          refine wp_region_lit ?_
          refine sv' hF (wn rfl) rfl rfl (R.loadW agg39 (hF.ev rfl) hS (.t (.t (.t (.t (.t (.t .h)))))) sz39 (rfl)) fun a hF => ?_
          refine sv' hF (wn rfl) rfl rfl (R.loadW agg39 (hF.ev rfl) hS (.t (.t (.t (.t .h)))) sz39 (rfl)) fun a hF => ?_
          refine sv' hF (wn rfl) rfl rfl (R.as (u := .bool true) (R.eqlAgg (hF.ev rfl) (hF.ev rfl) (ran_eq _ _) eg39) (rfl)) fun a hF => ?_
          refine sv' hF (wn rfl) rfl rfl (R.move (hF.ev rfl)) fun a hF => ?_
          refine sv' hF (wy hF rfl rfl rfl) rfl rfl (R.loadW agg39 (hF.ev rfl) hS (.t (.t (.t (.t .h)))) sz39 (rfl)) fun a hF => ?_
          refine sv' hF (wy hF rfl rfl rfl) rfl rfl (R.loadW agg39 (hF.ev rfl) hS .h sz39 (rfl)) fun a hF => ?_
          refine sv' hF (wy hF rfl rfl rfl) rfl rfl (R.as (u := .bool true) (R.eqlAgg (hF.ev rfl) (hF.ev rfl) (ran_eq _ _) eg39) (rfl)) fun a hF => ?_
          refine sv' hF (wn rfl) rfl rfl (R.pickT (hF.ev rfl) (hF.ev rfl)) fun a hF => ?_
          refine sv' hF (wn rfl) rfl rfl (R.move (hF.ev rfl)) fun a hF => ?_
          refine sv' hF (wy hF rfl rfl rfl) rfl rfl (R.move (hF.ev rfl)) fun a hF => ?_
          refine sv' hF (wy hF rfl rfl rfl) rfl rfl (R.move (hF.ev rfl)) fun a hF => ?_
          refine sv' hF (wy hF rfl rfl rfl) rfl rfl (R.as (u := .bool true) (R.eql (p := (playN F.cl F.code F.rep).e) (q := (playN F.cl F.code F.rep).e) (hF.ev rfl) (hF.ev rfl)) (congrArg Value.bool (decide_eq_true (rfl)))) fun a hF => ?_
          refine sv' hF (wn rfl) rfl rfl (R.pickT (hF.ev rfl) (hF.ev rfl)) fun a hF => ?_
          refine sv' hF (wn rfl) rfl rfl (R.move (hF.ev rfl)) fun a hF => ?_
          refine sv' hF (wy hF rfl rfl rfl) rfl rfl (R.move (hF.ev rfl)) fun a hF => ?_
          refine sv' hF (wy hF rfl rfl rfl) rfl rfl (R.move (hF.ev rfl)) fun a hF => ?_
          refine sv' hF (wy hF rfl rfl rfl) rfl rfl (R.as (u := .bool true) (R.eql (p := (playN F.cl F.code F.rep).e) (q := (playN F.cl F.code F.rep).e) (hF.ev rfl) (hF.ev rfl)) (congrArg Value.bool (decide_eq_true (rfl)))) fun a hF => ?_
          refine sv' hF (wn rfl) rfl rfl (R.pickT (hF.ev rfl) (hF.ev rfl)) fun a hF => ?_
          refine sv' hF (wn rfl) rfl rfl (R.move (hF.ev rfl)) fun a hF => ?_
          refine sv' hF (wy hF rfl rfl rfl) rfl rfl (R.move (hF.ev rfl)) fun a hF => ?_
          refine sv' hF (wy hF rfl rfl rfl) rfl rfl (R.move (hF.ev rfl)) fun a hF => ?_
          refine so (wy hF rfl rfl rfl) (O.call rfl rfl hF ent16 (hF.evs rfl) hS (sameAsks_calls A16 A29 c16 c29 (playN F.cl F.code F.rep).asks w (hO16.rd hS (.t (.t (.t (.t (.t (.t (.t .h)))))))) (hO29.rd hS (.t (.t (.t .h)))) (Nat.le_trans hO16.2.1 hO16.cap)) fun v s64 a w hR hF hS => ?_)
          obtain ⟨rfl, rfl⟩ := hR
          refine sv' hF (wn rfl) rfl rfl (R.pickT (hF.ev rfl) (hF.ev rfl)) fun a hF => ?_
          refine sv' hF (wn rfl) rfl rfl (R.move (hF.ev rfl)) fun a hF => ?_
          refine sv' hF (wy hF rfl rfl rfl) rfl rfl (R.move (hF.ev rfl)) fun a hF => ?_
          refine sv' hF (wy hF rfl rfl rfl) rfl rfl (R.move (hF.ev rfl)) fun a hF => ?_
          refine so (wy hF rfl rfl rfl) (O.call rfl rfl hF ent16 (hF.evs rfl) hS (sameAsks_calls A29 A39 c29 c39 (playN F.cl F.code F.rep).asks w (hO29.rd hS (.t (.t (.t (.t .h))))) (hO39.rd hS (.t (.t .h))) (Nat.le_trans hO29.2.1 hO29.cap)) fun v s69 a w hR hF hS => ?_)
          obtain ⟨rfl, rfl⟩ := hR
          refine sv' hF (wn rfl) rfl rfl (R.pickT (hF.ev rfl) (hF.ev rfl)) fun a hF => ?_
          refine sv' hF (wn rfl) rfl rfl (R.move (hF.ev rfl)) fun a hF => ?_
          refine so (wy hF rfl rfl rfl) (O.call rfl rfl hF ent11 (hF.evs rfl) hS (alive_calls _) fun v s72 a w hR hF hS => ?_)
          obtain ⟨rfl, rfl⟩ := hR
          refine sv' hF (wn rfl) rfl rfl (R.pickT (hF.ev rfl) (hF.ev rfl)) fun a hF => ?_
          refine sv' hF (wn rfl) rfl rfl (R.assign (hF.ev rfl)) fun a hF => ?_
          refine s0 ?_
          refine then_n (hK24 _ _ ?_)
          refine wp_ret (hR _ _ _ _ _ hF (run_results Try.results8 (.t hF rfl (.nil))) ?_)
          exact ⟨_, [], rfl, ⟨rfl, rfl⟩, hS.none⟩
      ·
        refine dl rfl (wn rfl) (O.alloc rfl rfl hF ze39 rfl hS fun b8 a w hF hS => ⟨fun hD => hS.sel [4] rfl rfl, ?_⟩)
        have hD := hS.sel [4] rfl rfl
        refine dl rfl (wn rfl) (O.appendO rfl rfl hF Try.underlying23 inf5 rfl rfl (by decide) (hF.ev rfl) (hF.ev rfl) hS (own_nil5 b26) (fun _ => (.t .h)) (hI.old hS) (by rw [length_byts, Nat.mul_one]) (byts_one _) (by unfold maxLen; omega) (by omega) fun A28 c28 s28 a w hO28 hF hS => ⟨fun hD => hS.sel [4] rfl rfl, ?_⟩)
        have hD := hS.sel [4] rfl rfl
        rw [Nat.zero_add] at hF hO28; rw [show byts [] = [] from rfl, List.nil_append] at hO28
        refine dl rfl (wn rfl) (O.call rfl rfl hF ent15 (hF.evs rfl) hS (playI F A28 c28 xs w (hp.old hS) (hO28.rd hS (.t .h)) hB hO28.2.1 hO28.cap) fun v s29 a w hR hF hS => ⟨fun hD => hS.sel [5] rfl rfl, ?_⟩)
        obtain ⟨A29, c29, rfl, hO29⟩ := hR
        have hD := hS.sel [5] rfl rfl
        refine dq hF rfl (wn rfl) rfl rfl (fun w => R.move (hF.ev rfl)) fun a hF => ?_
        refine dq hF rfl (wn rfl) rfl rfl (fun w => R.extract (hF.ev rfl) rfl) fun a hF => ?_
        refine dq hF rfl (wn rfl) rfl rfl (fun w => R.extract (hF.ev rfl) rfl) fun a hF => ?_
        refine dq hF rfl (wn rfl) rfl rfl (fun w => R.extract (hF.ev rfl) rfl) fun a hF => ?_
        refine dl rfl (wn rfl) (O.storeW sz39 (hF.ev rfl) (hF.ev rfl) (rfl) rfl (by simp [Value.oneCell']) hS (.t .h) (rfl) fun w hS => ⟨fun hD => hS.sel [5] rfl rfl, ?_⟩)
        have hD := hS.sel [5] rfl rfl
        refine dq hF rfl (wn rfl) rfl rfl (fun w => R.assign (hF.ev rfl)) fun a hF => ?_
        refine dq hF rfl (wn rfl) rfl rfl (fun w => R.assign (hF.ev rfl)) fun a hF => ?_
        refine d0 ?_
        refine then_n (hK18 _ _ ?_)
        refine wp_seq_k fun K25 hK25 => ?_
        refine wp_region_lit ?_
        refine sv' hF (wn rfl) rfl rfl (R.move (hF.ev rfl)) fun a hF => ?_
        refine sv' hF (wn rfl) rfl rfl (R.buildStr (l := callc (nestF B c xs)) Try.underlying34 ze34 pl34 (hF.evp rfl) (by kernel_rfl)) fun a hF => ?_
        refine sv' hF (wn rfl) rfl rfl (R.buildStr (l := plays (nestF B c xs)) Try.underlying37 ze37 pl37 (hF.evp rfl) (by kernel_rfl)) fun a hF => ?_
        refine so (wn rfl) (O.call rfl rfl hF ent15 (hF.evs rfl) hS (play0 (nestF B c xs) w (nest_in (hI.old hS) hB (hc) (hc2) (hb))) fun v s36 a w hR hF hS => ?_)
        obtain ⟨A36, c36, rfl, hO36⟩ := hR
        refine s0 ?_
        refine then_n (hK25 _ _ ?_)
        refine wp_seq_k fun K26 hK26 => ?_
        refine wp_region_lit ?_
        refine sv' hF (wn rfl) rfl rfl (R.loadW agg37 (hF.ev rfl) hS (.t (.t (.t (.t (.t (.t .h)))))) sz37 (rfl)) fun a hF => ?_
        refine so (wn rfl) (O.call rfl rfl hF ent15 (hF.evs rfl) hS (play0 F w (hp.old hS)) fun v s39 a w hR hF hS => ?_)
        obtain ⟨A39, c39, rfl, hO39⟩ := hR
        refine sv' hF (wn rfl) rfl rfl (R.move (hF.ev rfl)) fun a hF => ?_
        refine sv' hF (wn rfl) rfl rfl (R.extract (hF.ev rfl) rfl) fun a hF => ?_
        refine sv' hF (wn rfl) rfl rfl (R.extract (hF.ev rfl) rfl) fun a hF => ?_
        refine sv' hF (wn rfl) rfl rfl (R.extract (hF.ev rfl) rfl) fun a hF => ?_
        refine so (wn rfl) (O.alloc rfl rfl hF ze39 rfl hS fun b11 a w hF hS => ?_)
        refine so (wn rfl) (O.storeW sz39 (hF.ev rfl) (hF.ev rfl) (rfl) rfl (by simp [Value.oneCell']) hS .h (rfl) fun w hS => ?_)
        refine sv' hF (wn rfl) rfl rfl (R.assign (hF.ev rfl)) fun a hF => ?_
        refine sv' hF (wn rfl) rfl rfl (R.assign (hF.ev rfl)) fun a hF => ?_
        refine s0 ?_
        refine then_n (hK26 _ _ ?_)
        refine wp_seq_k fun K27 hK27 => ?_
        refine wp_region_lit ?_
        refine sv' hF (wn rfl) rfl rfl (R.loadW agg39 (hF.ev rfl) hS (.t (.t (.t (.t (.t (.t .h)))))) sz39 (rfl)) fun a hF => ?_
        refine sv' hF (wn rfl) rfl rfl (R.loadW agg39 (hF.ev rfl) hS (.t (.t (.t (.t .h)))) sz39 (rfl)) fun a hF => ?_
        refine sv' hF (wn rfl) rfl rfl (R.as (u := .bool true) (R.eqlAgg (hF.ev rfl) (hF.ev rfl) (ran_eq _ _) eg39) (rfl)) fun a hF => ?_
        refine sv' hF (wn rfl) rfl rfl (R.move (hF.ev rfl)) fun a hF => ?_
        refine sv' hF (wy hF rfl rfl rfl) rfl rfl (R.loadW agg39 (hF.ev rfl) hS (.t (.t (.t (.t .h)))) sz39 (rfl)) fun a hF => ?_
        refine sv' hF (wy hF rfl rfl rfl) rfl rfl (R.loadW agg39 (hF.ev rfl) hS .h sz39 (rfl)) fun a hF => ?_
        refine sv' hF (wy hF rfl rfl rfl) rfl rfl (R.as (u := .bool true) (R.eqlAgg (hF.ev rfl) (hF.ev rfl) (ran_eq _ _) eg39) (rfl)) fun a hF => ?_
        refine sv' hF (wn rfl) rfl rfl (R.pickT (hF.ev rfl) (hF.ev rfl)) fun a hF => ?_
        refine sv' hF (wn rfl) rfl rfl (R.move (hF.ev rfl)) fun a hF => ?_
        refine sv' hF (wy hF rfl rfl rfl) rfl rfl (R.move (hF.ev rfl)) fun a hF => ?_
        refine sv' hF (wy hF rfl rfl rfl) rfl rfl (R.move (hF.ev rfl)) fun a hF => ?_
        refine sv' hF (wy hF rfl rfl rfl) rfl rfl (R.as (u := .bool true) (R.eql (p := (playN F.cl F.code F.rep).e) (q := (playN F.cl F.code F.rep).e) (hF.ev rfl) (hF.ev rfl)) (congrArg Value.bool (decide_eq_true (rfl)))) fun a hF => ?_
        refine sv' hF (wn rfl) rfl rfl (R.pickT (hF.ev rfl) (hF.ev rfl)) fun a hF => ?_
        refine sv' hF (wn rfl) rfl rfl (R.move (hF.ev rfl)) fun a hF => ?_
        refine sv' hF (wy hF rfl rfl rfl) rfl rfl (R.move (hF.ev rfl)) fun a hF => ?_
        refine sv' hF (wy hF rfl rfl rfl) rfl rfl (R.move (hF.ev rfl)) fun a hF => ?_
        refine sv' hF (wy hF rfl rfl rfl) rfl rfl (R.as (u := .bool true) (R.eql (p := (playN F.cl F.code F.rep).e) (q := (playN F.cl F.code F.rep).e) (hF.ev rfl) (hF.ev rfl)) (congrArg Value.bool (decide_eq_true (rfl)))) fun a hF => ?_
        refine sv' hF (wn rfl) rfl rfl (R.pickT (hF.ev rfl) (hF.ev rfl)) fun a hF => ?_
        refine sv' hF (wn rfl) rfl rfl (R.move (hF.ev rfl)) fun a hF => ?_
        refine sv' hF (wy hF rfl rfl rfl) rfl rfl (R.move (hF.ev rfl)) fun a hF => ?_
        refine sv' hF (wy hF rfl rfl rfl) rfl rfl (R.move (hF.ev rfl)) fun a hF => ?_
        refine so (wy hF rfl rfl rfl) (O.call rfl rfl hF ent16 (hF.evs rfl) hS (sameAsks_calls A16 A29 c16 c29 (playN F.cl F.code F.rep).asks w (hO16.rd hS (.t (.t (.t (.t (.t (.t (.t .h)))))))) (hO29.rd hS (.t (.t (.t .h)))) (Nat.le_trans hO16.2.1 hO16.cap)) fun v s64 a w hR hF hS => ?_)
        obtain ⟨rfl, rfl⟩ := hR
        refine sv' hF (wn rfl) rfl rfl (R.pickT (hF.ev rfl) (hF.ev rfl)) fun a hF => ?_
        refine sv' hF (wn rfl) rfl rfl (R.move (hF.ev rfl)) fun a hF => ?_
        refine sv' hF (wy hF rfl rfl rfl) rfl rfl (R.move (hF.ev rfl)) fun a hF => ?_
        refine sv' hF (wy hF rfl rfl rfl) rfl rfl (R.move (hF.ev rfl)) fun a hF => ?_
        refine so (wy hF rfl rfl rfl) (O.call rfl rfl hF ent16 (hF.evs rfl) hS (sameAsks_calls A29 A39 c29 c39 (playN F.cl F.code F.rep).asks w (hO29.rd hS (.t (.t (.t (.t .h))))) (hO39.rd hS (.t (.t .h))) (Nat.le_trans hO29.2.1 hO29.cap)) fun v s69 a w hR hF hS => ?_)
        obtain ⟨rfl, rfl⟩ := hR
        refine sv' hF (wn rfl) rfl rfl (R.pickT (hF.ev rfl) (hF.ev rfl)) fun a hF => ?_
        refine sv' hF (wn rfl) rfl rfl (R.move (hF.ev rfl)) fun a hF => ?_
        refine so (wy hF rfl rfl rfl) (O.call rfl rfl hF ent11 (hF.evs rfl) hS (alive_calls _) fun v s72 a w hR hF hS => ?_)
        obtain ⟨rfl, rfl⟩ := hR
        refine sv' hF (wn rfl) rfl rfl (R.pickT (hF.ev rfl) (hF.ev rfl)) fun a hF => ?_
        refine sv' hF (wn rfl) rfl rfl (R.assign (hF.ev rfl)) fun a hF => ?_
        refine s0 ?_
        refine then_n (hK27 _ _ ?_)
        refine wp_ret (hR _ _ _ _ _ hF (run_results Try.results8 (.t hF rfl (.nil))) ?_)
        exact ⟨_, [], rfl, ⟨rfl, rfl⟩, hS.none⟩
    ·
      refine dl rfl (wn rfl) (O.alloc rfl rfl hF ze39 rfl hS fun b8 a w hF hS => ⟨fun hD => hS.sel [3] rfl rfl, ?_⟩)
      have hD := hS.sel [3] rfl rfl
      refine dl rfl (wn rfl) (O.buildSlice (l := []) rfl rfl hF Try.underlying23 inf5 rfl rfl (hF.evp rfl) (by decide) rfl hS fun b26 a w hF hS => ⟨fun hD => hS.sel [4] rfl rfl, ?_⟩)
      have hD := hS.sel [4] rfl rfl
      refine dl rfl (wn rfl) (O.appendO rfl rfl hF Try.underlying23 inf5 rfl rfl (by decide) (hF.ev rfl) (hF.ev rfl) hS (own_nil5 b26) (fun _ => .h) (hI.old hS) (by rw [length_byts, Nat.mul_one]) (byts_one _) (by unfold maxLen; omega) (by omega) fun A28 c28 s28 a w hO28 hF hS => ⟨fun hD => hS.sel [4] rfl rfl, ?_⟩)
      have hD := hS.sel [4] rfl rfl
      rw [Nat.zero_add] at hF hO28; rw [show byts [] = [] from rfl, List.nil_append] at hO28
      refine dl rfl (wn rfl) (O.call rfl rfl hF ent15 (hF.evs rfl) hS (playI F A28 c28 xs w (hp.old hS) (hO28.rd hS .h) hB hO28.2.1 hO28.cap) fun v s29 a w hR hF hS => ⟨fun hD => hS.sel [5] rfl rfl, ?_⟩)
      obtain ⟨A29, c29, rfl, hO29⟩ := hR
      have hD := hS.sel [5] rfl rfl
      refine dq hF rfl (wn rfl) rfl rfl (fun w => R.move (hF.ev rfl)) fun a hF => ?_
      refine dq hF rfl (wn rfl) rfl rfl (fun w => R.extract (hF.ev rfl) rfl) fun a hF => ?_
      refine dq hF rfl (wn rfl) rfl rfl (fun w => R.extract (hF.ev rfl) rfl) fun a hF => ?_
      refine dq hF rfl (wn rfl) rfl rfl (fun w => R.extract (hF.ev rfl) rfl) fun a hF => ?_
      refine dl rfl (wn rfl) (O.storeW sz39 (hF.ev rfl) (hF.ev rfl) (rfl) rfl (by simp [Value.oneCell']) hS (.t (.t .h)) (rfl) fun w hS => ⟨fun hD => hS.sel [5] rfl rfl, ?_⟩)
      have hD := hS.sel [5] rfl rfl
      refine dq hF rfl (wn rfl) rfl rfl (fun w => R.assign (hF.ev rfl)) fun a hF => ?_
      refine dq hF rfl (wn rfl) rfl rfl (fun w => R.assign (hF.ev rfl)) fun a hF => ?_
      refine d0 ?_
      refine then_n (hK18 _ _ ?_)
      refine wp_seq_k fun K28 hK28 => ?_
      refine wp_region_lit ?_
      refine sv' hF (wn rfl) rfl rfl (R.move (hF.ev rfl)) fun a hF => ?_
      refine sv' hF (wn rfl) rfl rfl (R.buildStr (l := callc (nestF B c xs)) Try.underlying34 ze34 pl34 (hF.evp rfl) (by kernel_rfl)) fun a hF => ?_
      refine sv' hF (wn rfl) rfl rfl (R.buildStr (l := plays (nestF B c xs)) Try.underlying37 ze37 pl37 (hF.evp rfl) (by kernel_rfl)) fun a hF => ?_
      refine so (wn rfl) (O.call rfl rfl hF ent15 (hF.evs rfl) hS (play0 (nestF B c xs) w (nest_in (hI.old hS) hB (hc) (hc2) (hb))) fun v s36 a w hR hF hS => ?_)
      obtain ⟨A36, c36, rfl, hO36⟩ := hR
      refine s0 ?_
      refine then_n (hK28 _ _ ?_)
      refine wp_seq_k fun K29 hK29 => ?_
      refine wp_region_lit ?_
      refine sv' hF (wn rfl) rfl rfl (R.loadW agg37 (hF.ev rfl) hS (.t (.t (.t (.t (.t (.t .h)))))) sz37 (rfl)) fun a hF => ?_
      refine so (wn rfl) (O.call rfl rfl hF ent15 (hF.evs rfl) hS (play0 F w (hp.old hS)) fun v s39 a w hR hF hS => ?_)
      obtain ⟨A39, c39, rfl, hO39⟩ := hR
      refine sv' hF (wn rfl) rfl rfl (R.move (hF.ev rfl)) fun a hF => ?_
      refine sv' hF (wn rfl) rfl rfl (R.extract (hF.ev rfl) rfl) fun a hF => ?_
      refine sv' hF (wn rfl) rfl rfl (R.extract (hF.ev rfl) rfl) fun a hF => ?_
      refine sv' hF (wn rfl) rfl rfl (R.extract (hF.ev rfl) rfl) fun a hF => ?_
      refine so (wn rfl) (O.alloc rfl rfl hF ze39 rfl hS fun b11 a w hF hS => ?_)
      refine so (wn rfl) (O.storeW sz39 (hF.ev rfl) (hF.ev rfl) (rfl) rfl (by simp [Value.oneCell']) hS .h (rfl) fun w hS => ?_)
      refine sv' hF (wn rfl) rfl rfl (R.assign (hF.ev rfl)) fun a hF => ?_
      refine sv' hF (wn rfl) rfl rfl (R.assign (hF.ev rfl)) fun a hF => ?_
      refine s0 ?_
      refine then_n (hK29 _ _ ?_)
      refine wp_seq_k fun K30 hK30 => ?_
      refine wp_region_lit ?_
      refine sv' hF (wn rfl) rfl rfl (R.loadW agg39 (hF.ev rfl) hS (.t (.t (.t (.t (.t (.t .h)))))) sz39 (rfl)) fun a hF => ?_
      refine sv' hF (wn rfl) rfl rfl (R.loadW agg39 (hF.ev rfl) hS (.t (.t (.t (.t (.t .h))))) sz39 (rfl)) fun a hF => ?_
      refine sv' hF (wn rfl) rfl rfl (R.as (u := .bool true) (R.eqlAgg (hF.ev rfl) (hF.ev rfl) (ran_eq _ _) eg39) (rfl)) fun a hF => ?_
      refine sv' hF (wn rfl) rfl rfl (R.move (hF.ev rfl)) fun a hF => ?_
      refine sv' hF (wy hF rfl rfl rfl) rfl rfl (R.loadW agg39 (hF.ev rfl) hS (.t (.t (.t (.t (.t .h))))) sz39 (rfl)) fun a hF => ?_
      refine sv' hF (wy hF rfl rfl rfl) rfl rfl (R.loadW agg39 (hF.ev rfl) hS .h sz39 (rfl)) fun a hF => ?_
      refine sv' hF (wy hF rfl rfl rfl) rfl rfl (R.as (u := .bool true) (R.eqlAgg (hF.ev rfl) (hF.ev rfl) (ran_eq _ _) eg39) (rfl)) fun a hF => ?_
      refine sv' hF (wn rfl) rfl rfl (R.pickT (hF.ev rfl) (hF.ev rfl)) fun a hF => ?_
      refine sv' hF (wn rfl) rfl rfl (R.move (hF.ev rfl)) fun a hF => ?_
      refine sv' hF (wy hF rfl rfl rfl) rfl rfl (R.move (hF.ev rfl)) fun a hF => ?_
      refine sv' hF (wy hF rfl rfl rfl) rfl rfl (R.move (hF.ev rfl)) fun a hF => ?_
      refine sv' hF (wy hF rfl rfl rfl) rfl rfl (R.as (u := .bool true) (R.eql (p := (playN F.cl F.code F.rep).e) (q := (playN F.cl F.code F.rep).e) (hF.ev rfl) (hF.ev rfl)) (congrArg Value.bool (decide_eq_true (rfl)))) fun a hF => ?_
      refine sv' hF (wn rfl) rfl rfl (R.pickT (hF.ev rfl) (hF.ev rfl)) fun a hF => ?_
      refine sv' hF (wn rfl) rfl rfl (R.move (hF.ev rfl)) fun a hF => ?_
      refine sv' hF (wy hF rfl rfl rfl) rfl rfl (R.move (hF.ev rfl)) fun a hF => ?_
      refine sv' hF (wy hF rfl rfl rfl) rfl rfl (R.move (hF.ev rfl)) fun a hF => ?_
      refine sv' hF (wy hF rfl rfl rfl) rfl rfl (R.as (u := .bool true) (R.eql (p := (playN F.cl F.code F.rep).e) (q := (playN F.cl F.code F.rep).e) (hF.ev rfl) (hF.ev rfl)) (congrArg Value.bool (decide_eq_true (rfl)))) fun a hF => ?_
      refine sv' hF (wn rfl) rfl rfl (R.pickT (hF.ev rfl) (hF.ev rfl)) fun a hF => ?_
      refine sv' hF (wn rfl) rfl rfl (R.move (hF.ev rfl)) fun a hF => ?_
      refine sv' hF (wy hF rfl rfl rfl) rfl rfl (R.move (hF.ev rfl)) fun a hF => ?_
      refine sv' hF (wy hF rfl rfl rfl) rfl rfl (R.move (hF.ev rfl)) fun a hF => ?_
      refine so (wy hF rfl rfl rfl) (O.call rfl rfl hF ent16 (hF.evs rfl) hS (sameAsks_calls A16 A29 c16 c29 (playN F.cl F.code F.rep).asks w (hO16.rd hS (.t (.t (.t (.t (.t (.t (.t .h)))))))) (hO29.rd hS (.t (.t (.t .h)))) (Nat.le_trans hO16.2.1 hO16.cap)) fun v s64 a w hR hF hS => ?_)
      obtain ⟨rfl, rfl⟩ := hR
      refine sv' hF (wn rfl) rfl rfl (R.pickT (hF.ev rfl) (hF.ev rfl)) fun a hF => ?_
      refine sv' hF (wn rfl) rfl rfl (R.move (hF.ev rfl)) fun a hF => ?_
      refine sv' hF (wy hF rfl rfl rfl) rfl rfl (R.move (hF.ev rfl)) fun a hF => ?_
      refine sv' hF (wy hF rfl rfl rfl) rfl rfl (R.move (hF.ev rfl)) fun a hF => ?_
      refine so (wy hF rfl rfl rfl) (O.call rfl rfl hF ent16 (hF.evs rfl) hS (sameAsks_calls A29 A39 c29 c39 (playN F.cl F.code F.rep).asks w (hO29.rd hS (.t (.t (.t (.t .h))))) (hO39.rd hS (.t (.t .h))) (Nat.le_trans hO29.2.1 hO29.cap)) fun v s69 a w hR hF hS => ?_)
      obtain ⟨rfl, rfl⟩ := hR
      refine sv' hF (wn rfl) rfl rfl (R.pickT (hF.ev rfl) (hF.ev rfl)) fun a hF => ?_
      refine sv' hF (wn rfl) rfl rfl (R.move (hF.ev rfl)) fun a hF => ?_
      refine so (wy hF rfl rfl rfl) (O.call rfl rfl hF ent11 (hF.evs rfl) hS (alive_calls _) fun v s72 a w hR hF hS => ?_)
      obtain ⟨rfl, rfl⟩ := hR
      refine sv' hF (wn rfl) rfl rfl (R.pickT (hF.ev rfl) (hF.ev rfl)) fun a hF => ?_
      refine sv' hF (wn rfl) rfl rfl (R.assign (hF.ev rfl)) fun a hF => ?_
      refine s0 ?_
      refine then_n (hK30 _ _ ?_)
      refine wp_ret (hR _ _ _ _ _ hF (run_results Try.results8 (.t hF rfl (.nil))) ?_)
      exact ⟨_, [], rfl, ⟨rfl, rfl⟩, hS.none⟩

end Go.Proofs.Ytlapmbkfmbkdoaa
