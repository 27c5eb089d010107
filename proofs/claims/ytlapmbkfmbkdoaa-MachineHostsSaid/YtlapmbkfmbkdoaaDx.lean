/- A host that runs programs itself. -/
import Derived.Test.YtlapmbkfmbkdoaaDw
namespace Go.Proofs.Ytlapmbkfmbkdoaa
open Go Go.Fw Go.RowKit
attribute [local irreducible] Go.Oper.wp Go.Code.wp Go.wpList Go.Fw.WL Go.Calls
theorem run_calls (F : Fx) (s2 : Seg) (w0 : World) (h0 : Fx.Ok0 F) (hH : HostS F [] s2) (ho : Own w0 s2) (hD' : F.Rds w0 (s2.map (·.1))) (hNX : NextOK F) :
    Ret Try.prog 18 [.slice F.cA F.code.length F.cc, .agg (callc F).toArray, .iface 53 (.pointer (some ⟨F.hb, 0, none⟩))] w0 (s2.map (·.1)) (fun x s' => x = .tuple #[.agg (wc (playN F.cl F.code F.rep).v ++ [Value.int .i64 (playN F.cl F.code F.rep).gas]).toArray, .int .i64 (playN F.cl F.code F.rep).e] ∧ HostS F (playN F.cl F.code F.rep).asks s') := by
  cases hc : chkN F.code with
  | false =>
    have e : playN F.cl F.code F.rep = ⟨0, 0, 100, []⟩ := by simp [playN, hc]
    rw [e]
    exact run_bad F s2 w0 h0 hH ho hD' hc
  | true =>
    cases hcl : callOk F.cl with
    | false =>
      have e : playN F.cl F.code F.rep = ⟨0, 0, 101, []⟩ := by simp [playN, hc, hcl]
      rw [e]
      exact run_call F s2 w0 h0 hH ho hD' hc hcl
    | true => exact run_good F s2 w0 h0 hH ho hD' hNX hc hcl
theorem R.mkI {P : Program} {w : World} {ρ : Operand → Value} {dst : Option Tmp} {ty : TypeId} {pos : String} {af : Array Edge} {g : Option (Nat × Bool)} {x : Operand} {T E : TypeId} {u : Value} (hT : P.underlying T = some (.pointer E)) (hx : ρ x = u) : (execOp ρ ⟨dst, .makeInterface T x, ty, pos, af, g⟩).run P w = .ok (.value (.iface T u)) w := by
  simp [execOp, hx, Instr.makeInterface, run_underlying hT, Sem.run_bind]
def innerF (F : Fx) (b : Nat) : Fx := { rb := 0, hb := b, cA := F.iA, cc := F.ic, code := F.inner, aA := none, ac := 0, cl := ⟨fun _ => 0, fun _ => 0, 0, 7, [], 0, 1000⟩, qA := none, qc := 0, reps := [], iA := none, ic := 0, inner := [] }
structure InnerOk (F : Fx) : Prop where
  byt : Byt F.inner
  cap : F.inner.length ≤ F.ic
  cap2 : F.ic ≤ 9223372036854775807
theorem next0_ok {F : Fx} (h : F.inner.length = 0) : NextOK F := fun asks q s w0 hH ho hQ _ hl => next_0 F asks q s w0 hH ho hQ hl h
theorem inner_ok {F : Fx} (h : InnerOk F) (b : Nat) : Fx.Ok0 (innerF F b) := ⟨h.byt, h.cap, h.cap2, by intro x hx; simp [innerF] at hx, Nat.zero_le _, Nat.zero_le _, fun _ => by show 0 < 256; decide, fun _ => by show 0 < 256; decide, by show 7 < _; decide, by intro r hr; simp [innerF] at hr, Nat.zero_le _⟩

set_option maxHeartbeats 2000000 in
theorem next_1 (F : Fx) (asks : List Fw.Ask) (q : Fw.Ask) (s : Seg) (w0 : World) (hH : HostS F asks s) (ho : Own w0 s) (hQ : RdK w0 (s.map (·.1)) F.qA (F.reps.flatMap repc)) (hI : RdK w0 (s.map (·.1)) F.iA (byts F.inner)) (hl : asks.length ≤ 20000) (hin : InnerOk F) : Ret Try.prog 120 [.pointer (some ⟨F.hb, 0, none⟩), .agg (askc q).toArray] w0 (s.map (·.1)) (fun v s' => v = .tuple #[wv (F.rep asks.length).1, .int .i64 (F.rep asks.length).2] ∧ HostS F (asks ++ [q]) s') := by
  refine fn_start Try.func120 rfl Try.ntmps120 rfl [(0, .pointer (some ⟨F.hb, 0, none⟩)), (1, .agg (askc q).toArray)] ⟨rfl, rfl, trivial⟩ ?_
  intro Q a hP hF hR hN
  have hS := St.enter ho
  obtain ⟨A, c, hg, hs, hO⟩ := hH; have hS := hS.flat (bs' := [[(F.hb, Cel (hcells F (.slice A asks.length c)) 55)], hg]) (by simp [hs])
  refine wp_seq_k fun K1 hK1 => ?_
  refine wp_region_lit ?_
  refine so (wn rfl) (O.box rfl rfl hF (hF.ev rfl) rfl hS fun b3 a w hF hS => ?_)
  refine so (wn rfl) (O.alloc rfl rfl hF ze31 rfl hS fun b4 a w hF hS => ?_)
  refine sv' hF (wn rfl) rfl rfl (R.assign (hF.ev rfl)) fun a hF => ?_
  refine s0 ?_
  refine then_n (hK1 _ _ ?_)
  refine wp_seq_k fun K2 hK2 => ?_
  refine wp_drawG hS (hS.sel [1, 2] rfl rfl) [(0, 0), (1, 0), (2, 0), (3, 0), (4, 1), (5, 1), (6, 2), (7, 2), (8, 0), (9, 0), (10, 3)] mix (by kernel_rfl) (hP.then) fun w hS hD => ?_
  refine dq hF rfl (wn rfl) rfl rfl (fun w => R.move (hF.ev rfl)) fun a hF => ?_
  refine dq hF rfl (wn rfl) rfl rfl (fun w => R.move (hF.ev rfl)) fun a hF => ?_
  refine dq hF rfl (wn rfl) rfl rfl (fun w => R.nilCheck (hF.ev rfl)) fun a hF => ?_
  refine dq hF rfl (wn rfl) rfl rfl (fun w => R.fieldAddr (k := 1) Try.underlying55 rfl nz40 (hF.ev rfl) rfl) fun a hF => ?_
  refine dr hF rfl (wn rfl) rfl rfl hD (fun w hD => R.load one40 (hF.ev rfl) hD (.t .h) (rfl)) fun a hF => ?_
  refine dr hF rfl (wn rfl) rfl rfl hD (fun w hD => R.loadW agg72 (hF.ev rfl) hD .h sz72 (rfl)) fun a hF => ?_
  refine dl rfl (wn rfl) (O.buildSlice (l := [_, _, _, _, _, _, _, _, _, _, _, _, _, _, _, _, _, _, _, _, _, _, _, _, _, _, _, _, _, _]) rfl rfl hF Try.underlying40 inf72 rfl rfl (hF.evp rfl) (by decide) rfl hS fun b14 a w hF hS => ⟨fun hD => hS.sel [2, 3] rfl rfl, ?_⟩)
  have hD := hS.sel [2, 3] rfl rfl
  refine dl rfl (wn rfl) (O.append rfl rfl hF Try.underlying40 inf72 rfl rfl (by decide) (hF.ev rfl) (hF.ev rfl) hS hO (fun _ => (.t (.t (.t (.t .h))))) (Rd.own0 hS .h) (rfl) (by simp [Value.oneCell']) (by unfold maxLen; omega) (by omega) fun A15 c15 s15 a w hO15 hF hS => ⟨fun hD => hS.sel [2, 3] rfl rfl, ?_⟩)
  have hD := hS.sel [2, 3] rfl rfl
  refine dq hF rfl (wn rfl) rfl rfl (fun w => R.nilCheck (hF.ev rfl)) fun a hF => ?_
  refine dq hF rfl (wn rfl) rfl rfl (fun w => R.fieldAddr (k := 1) Try.underlying55 rfl nz40 (hF.ev rfl) rfl) fun a hF => ?_
  refine dw rfl (wn rfl) (O.store sz40 (hF.ev rfl) (hF.ev rfl) rfl rfl hS (.t (.t (.t .h))) (show List.set _ _ _ = hcells F (.slice A15 (asks.length + 1) c15) from rfl) (by first | decide | omega | (show _ < 59; decide) | (show _ < 3; decide) | simp) fun w hS => ?_)
  refine d0 ?_
  refine then_n (hK2 _ _ ?_)
  refine wp_seq_k fun K3 hK3 => ?_
  have hK3' : ∀ a w, (Fr 63 [(0, .pointer (some ⟨F.hb, 0, none⟩)), (4, .pointer (some ⟨b4, 0, none⟩))] a ∧ St w0 (s.map (·.1)) [[(F.hb, Cel (hcells F (.slice A15 (asks.length + 1) c15)) 55)], s15, [(b4, Cel [.int .u64 0, .int .u64 0, .int .u64 0, .int .u64 0] 31)]] w) → K3 a w := by
    rintro a w ⟨hF, hS⟩
    refine hK3 _ _ ?_
    refine wp_seq_k fun K4 hK4 => ?_
    refine wp_seq_k fun K5 hK5 => ?_
    refine wp_drawS hS [(0, 0), (1, 0), (2, 0), (3, 1), (4, 0), (5, 0), (6, 0), (7, 0), (8, 1), (9, 0), (10, 0)] mix (by kernel_rfl) (hP.then.then) fun w hS => ?_
    have hD := hS
    refine dq hF rfl (wn rfl) rfl rfl (fun w => R.move (hF.ev rfl)) fun a hF => ?_
    refine dq hF rfl (wn rfl) rfl rfl (fun w => R.nilCheck (hF.ev rfl)) fun a hF => ?_
    refine dq hF rfl (wn rfl) rfl rfl (fun w => R.fieldAddr (k := 1) Try.underlying55 rfl nz40 (hF.ev rfl) rfl) fun a hF => ?_
    refine dr hF rfl (wn rfl) rfl rfl hD (fun w hD => R.load one40 (hF.ev rfl) hD .h (rfl)) fun a hF => ?_
    refine dq hF rfl (wn rfl) rfl rfl (fun w => R.len Try.underlying40 (hF.ev rfl)) fun a hF => ?_
    refine dq hF rfl (wn rfl) rfl rfl (fun w => R.move (hF.ev rfl)) fun a hF => ?_
    refine dq hF rfl (wn rfl) rfl rfl (fun w => R.nilCheck (hF.ev rfl)) fun a hF => ?_
    refine dq hF rfl (wn rfl) rfl rfl (fun w => R.fieldAddr (k := 0) Try.underlying55 rfl nz35 (hF.ev rfl) rfl) fun a hF => ?_
    refine dr hF rfl (wn rfl) rfl rfl hD (fun w hD => R.load one35 (hF.ev rfl) hD .h (rfl)) fun a hF => ?_
    refine dq hF rfl (wn rfl) rfl rfl (fun w => R.len Try.underlying35 (hF.ev rfl)) fun a hF => ?_
    refine dq hF rfl (wn rfl) rfl rfl (fun w => R.leq (hF.ev rfl) (hF.ev rfl)) fun a hF => ?_
    refine d0 ?_
    refine then_n (hK5 _ _ ?_)
    refine cD hF rfl (fun c2 => ?_) (fun c2 => ?_)
    ·
      refine wp_seq_k fun K6 hK6 => ?_
      refine wp_drawS hS [(0, 0), (1, 0), (2, 0), (3, 1), (4, 0), (5, 0), (6, 0), (7, 1), (8, 0), (9, 0), (10, 0), (11, 1), (12, 2), (13, 3)] mix (by kernel_rfl) (hP.then.then) fun w hS => ?_
      have hD := hS
      refine dq hF rfl (wn rfl) rfl rfl (fun w => R.move (hF.ev rfl)) fun a hF => ?_
      refine dq hF rfl (wn rfl) rfl rfl (fun w => R.nilCheck (hF.ev rfl)) fun a hF => ?_
      refine dq hF rfl (wn rfl) rfl rfl (fun w => R.fieldAddr (k := 0) Try.underlying55 rfl nz35 (hF.ev rfl) rfl) fun a hF => ?_
      refine dr hF rfl (wn rfl) rfl rfl hD (fun w hD => R.load one35 (hF.ev rfl) hD .h (rfl)) fun a hF => ?_
      refine dq hF rfl (wn rfl) rfl rfl (fun w => R.move (hF.ev rfl)) fun a hF => ?_
      refine dq hF rfl (wn rfl) rfl rfl (fun w => R.nilCheck (hF.ev rfl)) fun a hF => ?_
      refine dq hF rfl (wn rfl) rfl rfl (fun w => R.fieldAddr (k := 1) Try.underlying55 rfl nz40 (hF.ev rfl) rfl) fun a hF => ?_
      refine dr hF rfl (wn rfl) rfl rfl hD (fun w hD => R.load one40 (hF.ev rfl) hD .h (rfl)) fun a hF => ?_
      refine dq hF rfl (wn rfl) rfl rfl (fun w => R.len Try.underlying40 (hF.ev rfl)) fun a hF => ?_
      refine dq hF rfl (wn rfl) rfl rfl (fun w => R.subI (hF.ev rfl) (hF.ev rfl) (by omega)) fun a hF => ?_
      refine dq hF rfl (wn rfl) rfl rfl (fun w => R.indexO Try.underlying35 sz48 (hF.ev rfl) (Rd.ne (hQ.old hS) (by rw [reps_length]; omega)) (hF.ev rfl) (by omega) (by omega)) fun a hF => ?_
      refine dr hF rfl (wn rfl) rfl rfl hD (fun w hD => R.loadAO (cs := repc (F.reps.getD asks.length (0, 0))) agg48 (hF.ev rfl) (hQ.old hD) sz48 rfl (Nat.succ_pos _) (reps_at (k := asks.length) (by omega) (by omega))) fun a hF => ?_
      refine dl rfl (wn rfl) (O.alloc rfl rfl hF ze48 rfl hS fun b7 a w hF hS => ⟨fun hD => hS.tail, ?_⟩)
      have hD := hS.tail
      refine dw rfl (wn rfl) (O.storeW sz48 (hF.ev rfl) (hF.ev rfl) (rfl) rfl (one_repc _) hS .h (rfl) fun w hS => ?_)
      refine d0 ?_
      refine then_n (hK6 _ _ ?_)
      refine wp_seq_k fun K7 hK7 => ?_
      refine wp_drawG hS (hS.sel [0] rfl rfl) [(0, 0), (1, 1), (2, 0), (3, 1), (4, 2), (5, 0)] mix (by kernel_rfl) (hP.then.then) fun w hS hD => ?_
      refine dq hF rfl (wn rfl) rfl rfl (fun w => R.fieldAddr (k := 0) Try.underlying48 rfl nz31 (hF.ev rfl) rfl) fun a hF => ?_
      refine dr hF rfl (wn rfl) rfl rfl hD (fun w hD => R.loadA (cs := [_, _, _, _]) agg31 (hF.ev rfl) hD .h sz31 rfl (getAt rfl)) fun a hF => ?_
      refine dq hF rfl (wn rfl) rfl rfl (fun w => R.fieldAddr (k := 4) Try.underlying48 rfl nz24 (hF.ev rfl) rfl) fun a hF => ?_
      refine dr hF rfl (wn rfl) rfl rfl hD (fun w hD => R.load one24 (hF.ev rfl) hD .h (rfl)) fun a hF => ?_
      refine dl rfl (wn rfl) (O.storeW sz31 (hF.ev rfl) (hF.ev rfl) (rfl) rfl (by simp [Value.oneCell']) hS (.t (.t (.t .h))) (rfl) fun w hS => ⟨fun hD => hS.sel [0] rfl rfl, ?_⟩)
      have hD := hS.sel [0] rfl rfl
      refine dq hF rfl (wn rfl) rfl rfl (fun w => R.assign (hF.ev rfl)) fun a hF => ?_
      refine d0 ?_
      refine then_n (hK7 _ _ ?_)
      refine wp_ret (then_r (hR _ _ _ _ _ hF (run_results Try.results120 (.cw hF rfl agg31 hS (.t (.t (.t .h))) sz31 (rfl) (.t hF rfl (.nil)))) ?_))
      obtain ⟨s', h1, h2⟩ := HostS.close (F := F) (asks := asks ++ [q]) (hS.sel [1, 2] rfl rfl) (by simp) (own_ask hO15)
      exact ⟨_, s', rfl, ⟨by rw [rep_lt (k := asks.length) (by omega)]; rfl, h1⟩, h2⟩
    ·
      refine wp_skip ?_
      refine then_n (hK4 _ _ ?_)
      refine wp_seq_k fun K8 hK8 => ?_
      refine wp_region_lit ?_
      refine sv' hF (wn rfl) rfl rfl (R.buildArr (l := [_, _, _, _]) Try.underlying31 ze31 sz29 (hF.evp rfl) rfl) fun a hF => ?_
      refine so (wn rfl) (O.storeW sz31 (hF.ev rfl) (hF.ev rfl) (rfl) rfl (by simp [Value.oneCell']) hS (.t (.t .h)) (rfl) fun w hS => ?_)
      refine sv' hF (wn rfl) rfl rfl (R.assign (hF.ev rfl)) fun a hF => ?_
      refine s0 ?_
      refine then_n (hK8 _ _ ?_)
      refine wp_ret (hR _ _ _ _ _ hF (run_results Try.results120 (.cw hF rfl agg31 hS (.t (.t .h)) sz31 (rfl) (.t hF rfl (.nil)))) ?_)
      obtain ⟨s', h1, h2⟩ := HostS.close (F := F) (asks := asks ++ [q]) (hS.sel [0, 1] rfl rfl) (by simp) (own_ask hO15)
      exact ⟨_, s', rfl, ⟨by rw [rep_ge (k := asks.length) (by omega)]; rfl, h1⟩, h2⟩
  refine wp_seq_k fun K9 hK9 => ?_
  refine wp_region_lit ?_
  refine sv' hF (wn rfl) rfl rfl (R.move (hF.ev rfl)) fun a hF => ?_
  refine sv' hF (wn rfl) rfl rfl (R.nilCheck (hF.ev rfl)) fun a hF => ?_
  refine sv' hF (wn rfl) rfl rfl (R.fieldAddr (k := 2) Try.underlying55 rfl nz23 (hF.ev rfl) rfl) fun a hF => ?_
  refine sv' hF (wn rfl) rfl rfl (R.load one23 (hF.ev rfl) hS (.t (.t (.t .h))) (rfl)) fun a hF => ?_
  refine sv' hF (wn rfl) rfl rfl (R.len Try.underlying23 (hF.ev rfl)) fun a hF => ?_
  refine sv' hF (wn rfl) rfl rfl (R.gtr (hF.ev rfl) (hF.ev rfl)) fun a hF => ?_
  refine s0 ?_
  refine then_n (hK9 _ _ ?_)
  refine cD hF rfl (fun c1 => ?_) (fun c1 => ?_)
  ·
    refine wp_seq_k fun K10 hK10 => ?_
    refine wp_region_lit ?_
    refine sv' hF (wn rfl) rfl rfl (R.buildStr (l := [_, _, _]) Try.underlying55 ze55 pl55 (hF.evp rfl) rfl) fun a hF => ?_
    refine so (wn rfl) (O.box rfl rfl hF (hF.ev rfl) rfl hS fun b25 a w hF hS => ?_)
    refine sv' hF (wn rfl) rfl rfl (R.assign (hF.ev rfl)) fun a hF => ?_
    refine s0 ?_
    refine then_n (hK10 _ _ ?_)
    refine wp_region_lit ?_
    refine sv' hF (wn rfl) rfl rfl (R.move (hF.ev rfl)) fun a hF => ?_
    refine sv' hF (wn rfl) rfl rfl (R.nilCheck (hF.ev rfl)) fun a hF => ?_
    refine sv' hF (wn rfl) rfl rfl (R.fieldAddr (k := 2) Try.underlying55 rfl nz23 (hF.ev rfl) rfl) fun a hF => ?_
    refine sv' hF (wn rfl) rfl rfl (R.load one23 (hF.ev rfl) hS (.t (.t (.t (.t .h)))) (rfl)) fun a hF => ?_
    refine sv' hF (wn rfl) rfl rfl (R.buildArr (l := [_, _, _, _]) Try.underlying31 ze31 sz29 (hF.evp rfl) rfl) fun a hF => ?_
    refine sv' hF (wn rfl) rfl rfl (R.buildStr (l := callc (innerF F b25)) Try.underlying34 ze34 pl34 (hF.evp rfl) (by kernel_rfl)) fun a hF => ?_
    refine sv' hF (wn rfl) rfl rfl (R.move (hF.ev rfl)) fun a hF => ?_
    refine sv' hF (wn rfl) rfl rfl (R.mkI Try.underlying53 (hF.ev rfl)) fun a hF => ?_
    refine so (wn rfl) (O.callK rfl rfl hF ent18 (hF.evs rfl) hS (run_calls (innerF F b25) [(b25, Cel [.slice none 0 0, .slice none 0 0, .slice none 0 0] 55)] w (inner_ok hin b25) ⟨none, 0, [], rfl, OwnS.nil 72 30⟩ (hS.own1 .h) ⟨hI.down hS .h, RdK.nil _ _ _, RdK.nil _ _ _, RdK.nil _ _ _⟩ (next0_ok rfl)) (fun _ => .h) fun v s34 a w hR hF hS => ?_)
    clear hR
    refine s0 ?_
    exact then_n (hK3' _ _ ⟨hF.sub ⟨rfl, rfl, trivial⟩, hS.sel [4, 5, 2] rfl rfl⟩)
  ·
    refine wp_skip ?_
    exact then_n (hK3' _ _ ⟨hF.sub ⟨rfl, rfl, trivial⟩, hS.sel [3, 4, 1] rfl rfl⟩)

theorem next_ok {F : Fx} (hin : InnerOk F) : NextOK F := fun asks q s w0 hH ho hQ hI hl => next_1 F asks q s w0 hH ho hQ hI hl hin

end Go.Proofs.Ytlapmbkfmbkdoaa
