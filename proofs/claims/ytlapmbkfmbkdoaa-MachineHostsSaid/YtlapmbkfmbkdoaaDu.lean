/- Run, refused. -/
import Derived.Test.YtlapmbkfmbkdoaaDt
namespace Go.Proofs.Ytlapmbkfmbkdoaa
open Go Go.Fw Go.RowKit
attribute [local irreducible] Go.Oper.wp Go.Code.wp Go.wpList Go.Fw.WL Go.Calls
theorem R.ifaceNil {P : Program} {w : World} {ρ : Operand → Value} {dst : Option Tmp} {ty : TypeId} {pos : String} {af : Array Edge} {g : Option (Nat × Bool)} {x y : Operand} {T T' t : TypeId} {u : Value} {ms : Array (String × TypeId)} (hT : P.underlying T = some (.interface ms)) (hx : ρ x = .iface t u) (hy : ρ y = .nilIface) :
    (execOp ρ ⟨dst, .binOp .eql T x y T', ty, pos, af, g⟩).run P w = .ok (.value (.bool false)) w := by
  have e : ∀ d, (Op.equalIn (d + 1) T (.iface t u) .nilIface).run P w = .ok false w := fun d => by simp [Op.equalIn, run_underlying hT, Sem.run_bind]
  have e2 : (Op.equal T (.iface t u) .nilIface).run P w = .ok false w := e (Op.maxDepth - 1)
  simp only [execOp, hx, hy, eqGuard, binOp, Sem.run_bind, e2, Sem.run_pure, Result.andThen_ok]
  simp [e2, Sem.run_bind]
theorem R.nilNil {P : Program} {w : World} {ρ : Operand → Value} {dst : Option Tmp} {ty : TypeId} {pos : String} {af : Array Edge} {g : Option (Nat × Bool)} {x : Operand} {T T' : TypeId} {ms : Array (String × TypeId)} (hT : P.underlying T = some (.interface ms)) (hx : ρ x = .nilIface) (hy : ρ (.const .nilIface) = .nilIface) :
    (execOp ρ ⟨dst, .binOp .eql T x (.const .nilIface) T', ty, pos, af, g⟩).run P w = .ok (.value (.bool true)) w := by
  have e : ∀ d, (Op.equalIn (d + 1) T .nilIface .nilIface).run P w = .ok true w := fun d => by simp [Op.equalIn, run_underlying hT, Sem.run_bind]
  have e2 : (Op.equal T .nilIface .nilIface).run P w = .ok true w := e (Op.maxDepth - 1)
  simp [execOp, hx, hy, eqGuard, binOp, Sem.run_bind, e2]
structure Fx.Ok0 (F : Fx) : Prop where
  byt : Byt F.code
  cap : F.code.length ≤ F.cc
  cap2 : F.cc ≤ 9223372036854775807
  argsW : AllW F.cl.args
  acap : F.cl.args.length ≤ F.ac
  acap2 : F.ac ≤ 9223372036854775807
  self : ∀ i, F.cl.self i < 256
  caller : ∀ i, F.cl.caller i < 256
  amount : F.cl.amount < 115792089237316195423570985008687907853269984665640564039457584007913129639936
  reps : ∀ r ∈ F.reps, r.1 < 115792089237316195423570985008687907853269984665640564039457584007913129639936
  qlen : F.reps.length ≤ 9223372036854775807
theorem chk_len2 {xs : List Nat} (h : chkN xs = true) : xs.length ≤ 1024 := by
  unfold chkN at h
  simp only [Bool.and_eq_true, decide_eq_true_eq] at h
  exact h.1.2
theorem ok_of {F : Fx} (h : Fx.Ok0 F) (h1 : chkN F.code = true) (h2 : callOk F.cl = true) : F.Ok := ⟨chk_len2 h1, h.byt, h.cap, h.cap2, h1, h2, h.argsW, h.acap, h.acap2, h.self, h.caller, h.amount, h.reps, h.qlen⟩
def CallP (cl : Cl) : Prop := 0 ≤ cl.token ∧ cl.token < 64 ∧ cl.args.length ≤ 8 ∧ 0 ≤ cl.time ∧ cl.time ≤ 4611686018427387904 ∧ 1 ≤ cl.gas ∧ cl.gas ≤ 10000
theorem callOk_iff {cl : Cl} : callOk cl = true ↔ CallP cl := by simp [callOk, CallP, and_assoc]
theorem cb_true {cl : Cl} (h : ¬ (0 ≤ cl.token ∧ cl.token < 64 ∧ cl.args.length ≤ 8 ∧ 0 ≤ cl.time ∧ cl.time ≤ 4611686018427387904 ∧ 1 ≤ cl.gas ∧ cl.gas ≤ 10000)) : some (Value.bool true) = some (.bool (!callOk cl)) := by
  cases hc : callOk cl with
  | false => rfl
  | true => exact absurd (callOk_iff.1 hc) h
theorem cb_dec {cl : Cl} {p : Prop} [Decidable p] (h : p ↔ ¬ (0 ≤ cl.token ∧ cl.token < 64 ∧ cl.args.length ≤ 8 ∧ 0 ≤ cl.time ∧ cl.time ≤ 4611686018427387904 ∧ 1 ≤ cl.gas ∧ cl.gas ≤ 10000)) : some (Value.bool (decide p)) = some (.bool (!callOk cl)) := by
  cases hc : callOk cl with
  | false => rw [decide_eq_true (h.2 fun h2 => by rw [callOk_iff.2 h2] at hc; exact absurd hc (by decide))]; rfl
  | true => rw [decide_eq_false fun h2 => h.1 h2 (callOk_iff.1 hc)]; rfl
def errO : Out → Int | .err e _ => e | _ => 0
def asksO : Out → List Fw.Ask | .more _ _ _ a => a | .fin _ _ a => a | .err _ a => a
def finO : Out → Bool | .fin _ _ _ => true | _ => false
theorem did_go {F : Fx} {V : Vr} {o : Out} {x : Value} {s' : Seg} (h : DidS F V o x s') : x = .int .i64 (errO o) ∧ ∃ s1 s2, s' = s1 ++ s2 ∧ HostS F (asksO o) s2 ∧ ((errO o ≠ 0 ∧ ∃ e a, o = .err e a) ∨ (errO o = 0 ∧ ∃ V' stk', RunS F V' stk' s1 ∧ V'.ended = (V.ended || finO o) ∧
    ((finO o = false ∧ o = .more stk' V'.left V'.next (asksO o) ∧ V'.ended = V.ended ∧ V'.value = V.value) ∨ (finO o = true ∧ o = .fin V'.value V'.left (asksO o))))) := by
  cases o with
  | more stk left p asks =>
    obtain ⟨a, V', s1, s2, b, c, d, rfl, rfl, g, i⟩ := h
    exact ⟨a, s1, s2, b, d, .inr ⟨rfl, V', stk, c, by simp [g, finO], .inl ⟨rfl, rfl, g, i⟩⟩⟩
  | fin val left asks =>
    obtain ⟨a, V', stk, s1, s2, b, c, d, rfl, g, rfl⟩ := h
    exact ⟨a, s1, s2, b, d, .inr ⟨rfl, V', stk, c, by simp [g, finO], .inr ⟨rfl, rfl⟩⟩⟩
  | err e asks =>
    obtain ⟨a, b, s1, s2, c, d⟩ := h
    exact ⟨a, s1, s2, c, d, .inl ⟨b, e, asks, rfl⟩⟩

theorem run_bad (F : Fx) (s2 : Seg) (w0 : World) (h0 : Fx.Ok0 F) (hH : HostS F [] s2) (ho : Own w0 s2) (hD' : F.Rds w0 (s2.map (·.1))) (hc : chkN F.code = false) : Ret Try.prog 18 [.slice F.cA F.code.length F.cc, .agg (callc F).toArray, .iface 53 (.pointer (some ⟨F.hb, 0, none⟩))] w0 (s2.map (·.1)) (fun x s' => x = .tuple #[.agg (wc (0) ++ [Value.int .i64 (0)]).toArray, .int .i64 (100)] ∧ HostS F ([]) s') := by
  refine fn_start Try.func18 rfl Try.ntmps18 rfl [(0, .slice F.cA F.code.length F.cc), (1, .agg (callc F).toArray), (2, .iface 53 (.pointer (some ⟨F.hb, 0, none⟩)))] ⟨rfl, rfl, rfl, trivial⟩ ?_
  intro Q a hP hF hR hN
  have hS := St.enter ho
  refine wp_seq_k fun K1 hK1 => ?_
  refine wp_region_lit ?_
  refine so (wn rfl) (O.box rfl rfl hF (hF.ev rfl) rfl hS fun b4 a w hF hS => ?_)
  refine so (wn rfl) (O.alloc rfl rfl hF ze39 rfl hS fun b6 a w hF hS => ?_)
  refine sv' hF (wn rfl) rfl rfl (R.assign (hF.ev rfl)) fun a hF => ?_
  refine s0 ?_
  refine then_n (hK1 _ _ ?_)
  refine wp_scope_straight ?_
  refine wp_seq_k fun K2 hK2 => ?_
  refine wp_block ?_
  refine wp_seq_k fun K3 hK3 => ?_
  refine wp_region_lit ?_
  refine sv' hF (wn rfl) rfl rfl (R.move (hF.ev rfl)) fun a hF => ?_
  refine sv' hF (wn rfl) rfl rfl (R.ifaceNil Try.underlying78 (hF.ev rfl) (hF.ev rfl)) fun a hF => ?_
  refine sv' hF (wn rfl) rfl rfl (R.assign (hF.ev rfl)) fun a hF => ?_
  refine s0 ?_
  refine then_n (hK3 _ _ ?_)
  refine cF hF rfl ?_
  refine wp_seq_k fun K4 hK4 => ?_
  refine wp_region_lit ?_
  refine sv' hF (wn rfl) rfl rfl (R.move (hF.ev rfl)) fun a hF => ?_
  refine so (wn rfl) (O.call rfl rfl hF ent12 (hF.evs rfl) hS (check_calls F.cA F.code.length F.cc F.code w (hD'.code.old hS) rfl h0.cap h0.cap2 h0.byt) fun v s17 a w hR hF hS => ?_)
  obtain ⟨rfl, rfl⟩ := hR
  rw [show chkV F.code = .int .i64 100 from by rw [chkV, hc]; rfl] at hF
  refine sv' hF (wn rfl) rfl rfl (R.as (u := .bool true) (R.neq (p := 100) (q := 0) (hF.ev rfl) (hF.ev rfl)) (rfl)) fun a hF => ?_
  refine sv' hF (wn rfl) rfl rfl (R.assign (hF.ev rfl)) fun a hF => ?_
  refine s0 ?_
  refine then_n (hK4 _ _ ?_)
  refine cT hF rfl ?_
  refine wp_seq_k fun K5 hK5 => ?_
  refine wp_region_lit ?_
  refine sv' hF (wn rfl) rfl rfl (R.buildStr (l := [_, _, _, _, _]) Try.underlying39 ze39 pl39 (hF.evp rfl) rfl) fun a hF => ?_
  refine so (wn rfl) (O.storeW sz39 (hF.ev rfl) (hF.ev rfl) (rfl) rfl (by simp [Value.oneCell']) hS (.t .h) (rfl) fun w hS => ?_)
  refine sv' hF (wn rfl) rfl rfl (R.assign (hF.ev rfl)) fun a hF => ?_
  refine s0 ?_
  refine then_n (hK5 _ _ ?_)
  refine wp_ret (blk_r (then_r (sc_r (hR _ _ _ _ _ hF (run_results Try.results18 (.cw hF rfl agg39 hS (.t .h) sz39 (rfl) (.t hF rfl (.nil)))) ?_))))
  exact ⟨_, s2, rfl, ⟨rfl, hH⟩, hS.one (.t (.t (.t .h)))⟩

set_option maxHeartbeats 1000000 in
theorem run_call (F : Fx) (s2 : Seg) (w0 : World) (h0 : Fx.Ok0 F) (hH : HostS F [] s2) (ho : Own w0 s2) (hD' : F.Rds w0 (s2.map (·.1))) (hc : chkN F.code = true) (hcl : callOk F.cl = false) : Ret Try.prog 18 [.slice F.cA F.code.length F.cc, .agg (callc F).toArray, .iface 53 (.pointer (some ⟨F.hb, 0, none⟩))] w0 (s2.map (·.1)) (fun x s' => x = .tuple #[.agg (wc (0) ++ [Value.int .i64 (0)]).toArray, .int .i64 (101)] ∧ HostS F ([]) s') := by
  refine fn_start Try.func18 rfl Try.ntmps18 rfl [(0, .slice F.cA F.code.length F.cc), (1, .agg (callc F).toArray), (2, .iface 53 (.pointer (some ⟨F.hb, 0, none⟩)))] ⟨rfl, rfl, rfl, trivial⟩ ?_
  intro Q a hP hF hR hN
  have hS := St.enter ho
  refine wp_seq_k fun K1 hK1 => ?_
  refine wp_region_lit ?_
  refine so (wn rfl) (O.box rfl rfl hF (hF.ev rfl) rfl hS fun b4 a w hF hS => ?_)
  refine so (wn rfl) (O.alloc rfl rfl hF ze39 rfl hS fun b6 a w hF hS => ?_)
  refine sv' hF (wn rfl) rfl rfl (R.assign (hF.ev rfl)) fun a hF => ?_
  refine s0 ?_
  refine then_n (hK1 _ _ ?_)
  refine wp_scope_straight ?_
  refine wp_seq_k fun K2 hK2 => ?_
  refine wp_block ?_
  refine wp_seq_k fun K3 hK3 => ?_
  refine wp_region_lit ?_
  refine sv' hF (wn rfl) rfl rfl (R.move (hF.ev rfl)) fun a hF => ?_
  refine sv' hF (wn rfl) rfl rfl (R.ifaceNil Try.underlying78 (hF.ev rfl) (hF.ev rfl)) fun a hF => ?_
  refine sv' hF (wn rfl) rfl rfl (R.assign (hF.ev rfl)) fun a hF => ?_
  refine s0 ?_
  refine then_n (hK3 _ _ ?_)
  refine cF hF rfl ?_
  refine wp_seq_k fun K4 hK4 => ?_
  refine wp_region_lit ?_
  refine sv' hF (wn rfl) rfl rfl (R.move (hF.ev rfl)) fun a hF => ?_
  refine so (wn rfl) (O.call rfl rfl hF ent12 (hF.evs rfl) hS (check_calls F.cA F.code.length F.cc F.code w (hD'.code.old hS) rfl h0.cap h0.cap2 h0.byt) fun v s17 a w hR hF hS => ?_)
  obtain ⟨rfl, rfl⟩ := hR
  rw [show chkV F.code = .int .i64 0 from by rw [chkV, hc]; rfl] at hF
  refine sv' hF (wn rfl) rfl rfl (R.as (u := .bool false) (R.neq (p := 0) (q := 0) (hF.ev rfl) (hF.ev rfl)) (rfl)) fun a hF => ?_
  refine sv' hF (wn rfl) rfl rfl (R.assign (hF.ev rfl)) fun a hF => ?_
  refine s0 ?_
  refine then_n (hK4 _ _ ?_)
  refine cF hF rfl ?_
  refine wp_seq_k fun K5 hK5 => ?_
  have hK5' : ∀ a w, (Fr 93 [(0, .slice F.cA F.code.length F.cc), (2, .iface 53 (.pointer (some ⟨F.hb, 0, none⟩))), (4, .pointer (some ⟨b4, 0, none⟩)), (6, .pointer (some ⟨b6, 0, none⟩)), (20, .bool (!callOk F.cl))] a ∧ St w0 (s2.map (·.1)) [[(b4, Cel (callc F) 34)], [(b6, Cel [.int .u64 0, .int .u64 0, .int .u64 0, .int .u64 0, .int .i64 0] 39)], s2] w) → K5 a w := by
    rintro a w ⟨hF, hS⟩
    refine hK5 _ _ ?_
    refine cS hF rfl (fun c9 => ?_) (fun c9 => ?_)
    ·
      refine wp_seq_k fun K6 hK6 => ?_
      refine wp_region_lit ?_
      refine sv' hF (wn rfl) rfl rfl (R.buildStr (l := [_, _, _, _, _]) Try.underlying39 ze39 pl39 (hF.evp rfl) rfl) fun a hF => ?_
      refine so (wn rfl) (O.storeW sz39 (hF.ev rfl) (hF.ev rfl) (rfl) rfl (by simp [Value.oneCell']) hS (.t .h) (rfl) fun w hS => ?_)
      refine sv' hF (wn rfl) rfl rfl (R.assign (hF.ev rfl)) fun a hF => ?_
      refine s0 ?_
      refine then_n (hK6 _ _ ?_)
      refine wp_ret (blk_r (then_r (sc_r (hR _ _ _ _ _ hF (run_results Try.results18 (.cw hF rfl agg39 hS (.t .h) sz39 (rfl) (.t hF rfl (.nil)))) ?_))))
      exact ⟨_, s2, rfl, ⟨rfl, hH⟩, hS.one (.t (.t .h))⟩
    ·
      rw [hcl] at c9; exact absurd c9 (by decide)
  refine wp_region_lit ?_
  refine sv' hF (wn rfl) rfl rfl (R.fieldAddr (k := 40) Try.underlying34 rfl nz3 (hF.ev rfl) rfl) fun a hF => ?_
  refine sv' hF (wn rfl) rfl rfl (R.load one3 (hF.ev rfl) hS (.t (.t .h)) (rfl)) fun a hF => ?_
  refine sv' hF (wn rfl) rfl rfl (R.lss (hF.ev rfl) (hF.ev rfl)) fun a hF => ?_
  refine sv' hF (wn rfl) rfl rfl (R.move (hF.ev rfl)) fun a hF => ?_
  refine hF.splitD (t := 24) rfl (fun h24 hF => ?_) (fun h24 hF => ?_)
  ·
    refine sk hF (ws hF rfl rfl rfl rfl) rfl rfl fun a hF => ?_
    refine sk hF (ws hF rfl rfl rfl rfl) rfl rfl fun a hF => ?_
    refine sk hF (ws hF rfl rfl rfl rfl) rfl rfl fun a hF => ?_
    refine sv' hF (wn rfl) rfl rfl (R.pickT (hF.ev rfl) (hF.ev rfl)) fun a hF => ?_
    refine sv' hF (wn rfl) rfl rfl (R.move (hF.ev rfl)) fun a hF => ?_
    refine sk hF (ws hF rfl rfl rfl rfl) rfl rfl fun a hF => ?_
    refine sk hF (ws hF rfl rfl rfl rfl) rfl rfl fun a hF => ?_
    refine sk hF (ws hF rfl rfl rfl rfl) rfl rfl fun a hF => ?_
    refine sk hF (ws hF rfl rfl rfl rfl) rfl rfl fun a hF => ?_
    refine sv' hF (wn rfl) rfl rfl (R.pickT (hF.ev rfl) (hF.ev rfl)) fun a hF => ?_
    refine sv' hF (wn rfl) rfl rfl (R.move (hF.ev rfl)) fun a hF => ?_
    refine sk hF (ws hF rfl rfl rfl rfl) rfl rfl fun a hF => ?_
    refine sk hF (ws hF rfl rfl rfl rfl) rfl rfl fun a hF => ?_
    refine sk hF (ws hF rfl rfl rfl rfl) rfl rfl fun a hF => ?_
    refine sv' hF (wn rfl) rfl rfl (R.pickT (hF.ev rfl) (hF.ev rfl)) fun a hF => ?_
    refine sv' hF (wn rfl) rfl rfl (R.move (hF.ev rfl)) fun a hF => ?_
    refine sk hF (ws hF rfl rfl rfl rfl) rfl rfl fun a hF => ?_
    refine sk hF (ws hF rfl rfl rfl rfl) rfl rfl fun a hF => ?_
    refine sk hF (ws hF rfl rfl rfl rfl) rfl rfl fun a hF => ?_
    refine sv' hF (wn rfl) rfl rfl (R.pickT (hF.ev rfl) (hF.ev rfl)) fun a hF => ?_
    refine sv' hF (wn rfl) rfl rfl (R.move (hF.ev rfl)) fun a hF => ?_
    refine sk hF (ws hF rfl rfl rfl rfl) rfl rfl fun a hF => ?_
    refine sk hF (ws hF rfl rfl rfl rfl) rfl rfl fun a hF => ?_
    refine sk hF (ws hF rfl rfl rfl rfl) rfl rfl fun a hF => ?_
    refine sv' hF (wn rfl) rfl rfl (R.pickT (hF.ev rfl) (hF.ev rfl)) fun a hF => ?_
    refine sv' hF (wn rfl) rfl rfl (R.move (hF.ev rfl)) fun a hF => ?_
    refine sk hF (ws hF rfl rfl rfl rfl) rfl rfl fun a hF => ?_
    refine sk hF (ws hF rfl rfl rfl rfl) rfl rfl fun a hF => ?_
    refine sk hF (ws hF rfl rfl rfl rfl) rfl rfl fun a hF => ?_
    refine sv' hF (wn rfl) rfl rfl (R.pickT (hF.ev rfl) (hF.ev rfl)) fun a hF => ?_
    refine sv' hF (wn rfl) rfl rfl (R.assign (hF.ev rfl)) fun a hF => ?_
    refine s0 ?_
    exact then_n (hK5' _ _ ⟨hF.sub ⟨rfl, rfl, rfl, rfl, (by first | exact cb_true (by omega) | exact cb_dec (by omega)), trivial⟩, hS.sel [2, 1, 3] rfl rfl⟩)
  ·
    refine sv' hF (wy hF rfl rfl rfl) rfl rfl (R.fieldAddr (k := 40) Try.underlying34 rfl nz3 (hF.ev rfl) rfl) fun a hF => ?_
    refine sv' hF (wy hF rfl rfl rfl) rfl rfl (R.load one3 (hF.ev rfl) hS (.t (.t .h)) (rfl)) fun a hF => ?_
    refine sv' hF (wy hF rfl rfl rfl) rfl rfl (R.geq (hF.ev rfl) (hF.ev rfl)) fun a hF => ?_
    refine sv' hF (wn rfl) rfl rfl (R.pickF (hF.ev rfl) (hF.ev rfl)) fun a hF => ?_
    refine sv' hF (wn rfl) rfl rfl (R.move (hF.ev rfl)) fun a hF => ?_
    refine hF.splitD (t := 29) rfl (fun h29 hF => ?_) (fun h29 hF => ?_)
    ·
      refine sk hF (ws hF rfl rfl rfl rfl) rfl rfl fun a hF => ?_
      refine sk hF (ws hF rfl rfl rfl rfl) rfl rfl fun a hF => ?_
      refine sk hF (ws hF rfl rfl rfl rfl) rfl rfl fun a hF => ?_
      refine sk hF (ws hF rfl rfl rfl rfl) rfl rfl fun a hF => ?_
      refine sv' hF (wn rfl) rfl rfl (R.pickT (hF.ev rfl) (hF.ev rfl)) fun a hF => ?_
      refine sv' hF (wn rfl) rfl rfl (R.move (hF.ev rfl)) fun a hF => ?_
      refine sk hF (ws hF rfl rfl rfl rfl) rfl rfl fun a hF => ?_
      refine sk hF (ws hF rfl rfl rfl rfl) rfl rfl fun a hF => ?_
      refine sk hF (ws hF rfl rfl rfl rfl) rfl rfl fun a hF => ?_
      refine sv' hF (wn rfl) rfl rfl (R.pickT (hF.ev rfl) (hF.ev rfl)) fun a hF => ?_
      refine sv' hF (wn rfl) rfl rfl (R.move (hF.ev rfl)) fun a hF => ?_
      refine sk hF (ws hF rfl rfl rfl rfl) rfl rfl fun a hF => ?_
      refine sk hF (ws hF rfl rfl rfl rfl) rfl rfl fun a hF => ?_
      refine sk hF (ws hF rfl rfl rfl rfl) rfl rfl fun a hF => ?_
      refine sv' hF (wn rfl) rfl rfl (R.pickT (hF.ev rfl) (hF.ev rfl)) fun a hF => ?_
      refine sv' hF (wn rfl) rfl rfl (R.move (hF.ev rfl)) fun a hF => ?_
      refine sk hF (ws hF rfl rfl rfl rfl) rfl rfl fun a hF => ?_
      refine sk hF (ws hF rfl rfl rfl rfl) rfl rfl fun a hF => ?_
      refine sk hF (ws hF rfl rfl rfl rfl) rfl rfl fun a hF => ?_
      refine sv' hF (wn rfl) rfl rfl (R.pickT (hF.ev rfl) (hF.ev rfl)) fun a hF => ?_
      refine sv' hF (wn rfl) rfl rfl (R.move (hF.ev rfl)) fun a hF => ?_
      refine sk hF (ws hF rfl rfl rfl rfl) rfl rfl fun a hF => ?_
      refine sk hF (ws hF rfl rfl rfl rfl) rfl rfl fun a hF => ?_
      refine sk hF (ws hF rfl rfl rfl rfl) rfl rfl fun a hF => ?_
      refine sv' hF (wn rfl) rfl rfl (R.pickT (hF.ev rfl) (hF.ev rfl)) fun a hF => ?_
      refine sv' hF (wn rfl) rfl rfl (R.assign (hF.ev rfl)) fun a hF => ?_
      refine s0 ?_
      exact then_n (hK5' _ _ ⟨hF.sub ⟨rfl, rfl, rfl, rfl, (by first | exact cb_true (by omega) | exact cb_dec (by omega)), trivial⟩, hS.sel [2, 1, 3] rfl rfl⟩)
    ·
      refine sv' hF (wy hF rfl rfl rfl) rfl rfl (R.fieldAddr (k := 45) Try.underlying34 rfl nz32 (hF.ev rfl) rfl) fun a hF => ?_
      refine sv' hF (wy hF rfl rfl rfl) rfl rfl (R.load one32 (hF.ev rfl) hS (.t (.t .h)) (rfl)) fun a hF => ?_
      refine sv' hF (wy hF rfl rfl rfl) rfl rfl (R.len Try.underlying32 (hF.ev rfl)) fun a hF => ?_
      refine sv' hF (wy hF rfl rfl rfl) rfl rfl (R.gtr (hF.ev rfl) (hF.ev rfl)) fun a hF => ?_
      refine sv' hF (wn rfl) rfl rfl (R.pickF (hF.ev rfl) (hF.ev rfl)) fun a hF => ?_
      refine sv' hF (wn rfl) rfl rfl (R.move (hF.ev rfl)) fun a hF => ?_
      refine hF.splitD (t := 35) rfl (fun h35 hF => ?_) (fun h35 hF => ?_)
      ·
        refine sk hF (ws hF rfl rfl rfl rfl) rfl rfl fun a hF => ?_
        refine sk hF (ws hF rfl rfl rfl rfl) rfl rfl fun a hF => ?_
        refine sk hF (ws hF rfl rfl rfl rfl) rfl rfl fun a hF => ?_
        refine sv' hF (wn rfl) rfl rfl (R.pickT (hF.ev rfl) (hF.ev rfl)) fun a hF => ?_
        refine sv' hF (wn rfl) rfl rfl (R.move (hF.ev rfl)) fun a hF => ?_
        refine sk hF (ws hF rfl rfl rfl rfl) rfl rfl fun a hF => ?_
        refine sk hF (ws hF rfl rfl rfl rfl) rfl rfl fun a hF => ?_
        refine sk hF (ws hF rfl rfl rfl rfl) rfl rfl fun a hF => ?_
        refine sv' hF (wn rfl) rfl rfl (R.pickT (hF.ev rfl) (hF.ev rfl)) fun a hF => ?_
        refine sv' hF (wn rfl) rfl rfl (R.move (hF.ev rfl)) fun a hF => ?_
        refine sk hF (ws hF rfl rfl rfl rfl) rfl rfl fun a hF => ?_
        refine sk hF (ws hF rfl rfl rfl rfl) rfl rfl fun a hF => ?_
        refine sk hF (ws hF rfl rfl rfl rfl) rfl rfl fun a hF => ?_
        refine sv' hF (wn rfl) rfl rfl (R.pickT (hF.ev rfl) (hF.ev rfl)) fun a hF => ?_
        refine sv' hF (wn rfl) rfl rfl (R.move (hF.ev rfl)) fun a hF => ?_
        refine sk hF (ws hF rfl rfl rfl rfl) rfl rfl fun a hF => ?_
        refine sk hF (ws hF rfl rfl rfl rfl) rfl rfl fun a hF => ?_
        refine sk hF (ws hF rfl rfl rfl rfl) rfl rfl fun a hF => ?_
        refine sv' hF (wn rfl) rfl rfl (R.pickT (hF.ev rfl) (hF.ev rfl)) fun a hF => ?_
        refine sv' hF (wn rfl) rfl rfl (R.assign (hF.ev rfl)) fun a hF => ?_
        refine s0 ?_
        exact then_n (hK5' _ _ ⟨hF.sub ⟨rfl, rfl, rfl, rfl, (by first | exact cb_true (by omega) | exact cb_dec (by omega)), trivial⟩, hS.sel [2, 1, 3] rfl rfl⟩)
      ·
        refine sv' hF (wy hF rfl rfl rfl) rfl rfl (R.fieldAddr (k := 46) Try.underlying34 rfl nz3 (hF.ev rfl) rfl) fun a hF => ?_
        refine sv' hF (wy hF rfl rfl rfl) rfl rfl (R.load one3 (hF.ev rfl) hS (.t (.t .h)) (rfl)) fun a hF => ?_
        refine sv' hF (wy hF rfl rfl rfl) rfl rfl (R.lss (hF.ev rfl) (hF.ev rfl)) fun a hF => ?_
        refine sv' hF (wn rfl) rfl rfl (R.pickF (hF.ev rfl) (hF.ev rfl)) fun a hF => ?_
        refine sv' hF (wn rfl) rfl rfl (R.move (hF.ev rfl)) fun a hF => ?_
        refine hF.splitD (t := 40) rfl (fun h40 hF => ?_) (fun h40 hF => ?_)
        ·
          refine sk hF (ws hF rfl rfl rfl rfl) rfl rfl fun a hF => ?_
          refine sk hF (ws hF rfl rfl rfl rfl) rfl rfl fun a hF => ?_
          refine sk hF (ws hF rfl rfl rfl rfl) rfl rfl fun a hF => ?_
          refine sv' hF (wn rfl) rfl rfl (R.pickT (hF.ev rfl) (hF.ev rfl)) fun a hF => ?_
          refine sv' hF (wn rfl) rfl rfl (R.move (hF.ev rfl)) fun a hF => ?_
          refine sk hF (ws hF rfl rfl rfl rfl) rfl rfl fun a hF => ?_
          refine sk hF (ws hF rfl rfl rfl rfl) rfl rfl fun a hF => ?_
          refine sk hF (ws hF rfl rfl rfl rfl) rfl rfl fun a hF => ?_
          refine sv' hF (wn rfl) rfl rfl (R.pickT (hF.ev rfl) (hF.ev rfl)) fun a hF => ?_
          refine sv' hF (wn rfl) rfl rfl (R.move (hF.ev rfl)) fun a hF => ?_
          refine sk hF (ws hF rfl rfl rfl rfl) rfl rfl fun a hF => ?_
          refine sk hF (ws hF rfl rfl rfl rfl) rfl rfl fun a hF => ?_
          refine sk hF (ws hF rfl rfl rfl rfl) rfl rfl fun a hF => ?_
          refine sv' hF (wn rfl) rfl rfl (R.pickT (hF.ev rfl) (hF.ev rfl)) fun a hF => ?_
          refine sv' hF (wn rfl) rfl rfl (R.assign (hF.ev rfl)) fun a hF => ?_
          refine s0 ?_
          exact then_n (hK5' _ _ ⟨hF.sub ⟨rfl, rfl, rfl, rfl, (by first | exact cb_true (by omega) | exact cb_dec (by omega)), trivial⟩, hS.sel [2, 1, 3] rfl rfl⟩)
        ·
          refine sv' hF (wy hF rfl rfl rfl) rfl rfl (R.fieldAddr (k := 46) Try.underlying34 rfl nz3 (hF.ev rfl) rfl) fun a hF => ?_
          refine sv' hF (wy hF rfl rfl rfl) rfl rfl (R.load one3 (hF.ev rfl) hS (.t (.t .h)) (rfl)) fun a hF => ?_
          refine sv' hF (wy hF rfl rfl rfl) rfl rfl (R.gtr (hF.ev rfl) (hF.ev rfl)) fun a hF => ?_
          refine sv' hF (wn rfl) rfl rfl (R.pickF (hF.ev rfl) (hF.ev rfl)) fun a hF => ?_
          refine sv' hF (wn rfl) rfl rfl (R.move (hF.ev rfl)) fun a hF => ?_
          refine hF.splitD (t := 45) rfl (fun h45 hF => ?_) (fun h45 hF => ?_)
          ·
            refine sk hF (ws hF rfl rfl rfl rfl) rfl rfl fun a hF => ?_
            refine sk hF (ws hF rfl rfl rfl rfl) rfl rfl fun a hF => ?_
            refine sk hF (ws hF rfl rfl rfl rfl) rfl rfl fun a hF => ?_
            refine sv' hF (wn rfl) rfl rfl (R.pickT (hF.ev rfl) (hF.ev rfl)) fun a hF => ?_
            refine sv' hF (wn rfl) rfl rfl (R.move (hF.ev rfl)) fun a hF => ?_
            refine sk hF (ws hF rfl rfl rfl rfl) rfl rfl fun a hF => ?_
            refine sk hF (ws hF rfl rfl rfl rfl) rfl rfl fun a hF => ?_
            refine sk hF (ws hF rfl rfl rfl rfl) rfl rfl fun a hF => ?_
            refine sv' hF (wn rfl) rfl rfl (R.pickT (hF.ev rfl) (hF.ev rfl)) fun a hF => ?_
            refine sv' hF (wn rfl) rfl rfl (R.assign (hF.ev rfl)) fun a hF => ?_
            refine s0 ?_
            exact then_n (hK5' _ _ ⟨hF.sub ⟨rfl, rfl, rfl, rfl, (by first | exact cb_true (by omega) | exact cb_dec (by omega)), trivial⟩, hS.sel [2, 1, 3] rfl rfl⟩)
          ·
            refine sv' hF (wy hF rfl rfl rfl) rfl rfl (R.fieldAddr (k := 47) Try.underlying34 rfl nz3 (hF.ev rfl) rfl) fun a hF => ?_
            refine sv' hF (wy hF rfl rfl rfl) rfl rfl (R.load one3 (hF.ev rfl) hS (.t (.t .h)) (rfl)) fun a hF => ?_
            refine sv' hF (wy hF rfl rfl rfl) rfl rfl (R.lss (hF.ev rfl) (hF.ev rfl)) fun a hF => ?_
            refine sv' hF (wn rfl) rfl rfl (R.pickF (hF.ev rfl) (hF.ev rfl)) fun a hF => ?_
            refine sv' hF (wn rfl) rfl rfl (R.move (hF.ev rfl)) fun a hF => ?_
            refine hF.splitD (t := 50) rfl (fun h50 hF => ?_) (fun h50 hF => ?_)
            ·
              refine sk hF (ws hF rfl rfl rfl rfl) rfl rfl fun a hF => ?_
              refine sk hF (ws hF rfl rfl rfl rfl) rfl rfl fun a hF => ?_
              refine sk hF (ws hF rfl rfl rfl rfl) rfl rfl fun a hF => ?_
              refine sv' hF (wn rfl) rfl rfl (R.pickT (hF.ev rfl) (hF.ev rfl)) fun a hF => ?_
              refine sv' hF (wn rfl) rfl rfl (R.assign (hF.ev rfl)) fun a hF => ?_
              refine s0 ?_
              exact then_n (hK5' _ _ ⟨hF.sub ⟨rfl, rfl, rfl, rfl, (by first | exact cb_true (by omega) | exact cb_dec (by omega)), trivial⟩, hS.sel [2, 1, 3] rfl rfl⟩)
            ·
              refine sv' hF (wy hF rfl rfl rfl) rfl rfl (R.fieldAddr (k := 47) Try.underlying34 rfl nz3 (hF.ev rfl) rfl) fun a hF => ?_
              refine sv' hF (wy hF rfl rfl rfl) rfl rfl (R.load one3 (hF.ev rfl) hS (.t (.t .h)) (rfl)) fun a hF => ?_
              refine sv' hF (wy hF rfl rfl rfl) rfl rfl (R.gtr (hF.ev rfl) (hF.ev rfl)) fun a hF => ?_
              refine sv' hF (wn rfl) rfl rfl (R.pickF (hF.ev rfl) (hF.ev rfl)) fun a hF => ?_
              refine sv' hF (wn rfl) rfl rfl (R.assign (hF.ev rfl)) fun a hF => ?_
              refine s0 ?_
              exact then_n (hK5' _ _ ⟨hF.sub ⟨rfl, rfl, rfl, rfl, (by first | exact cb_true (by omega) | exact cb_dec (by omega)), trivial⟩, hS.sel [2, 1, 3] rfl rfl⟩)

end Go.Proofs.Ytlapmbkfmbkdoaa
