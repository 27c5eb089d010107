/- A play. -/
import Derived.Test.YtlapmbkfmbkdoaaDx
namespace Go.Proofs.Ytlapmbkfmbkdoaa
open Go Go.Fw Go.RowKit
attribute [local irreducible] Go.Oper.wp Go.Code.wp Go.wpList Go.Fw.WL Go.Calls
/-- what a play reads of what came in -/
def plays (F : Fx) : List Value := [.slice F.cA F.code.length F.cc, .int .u8 ((F.cl.self 0 : Nat) : Int), .int .u8 ((F.cl.self 1 : Nat) : Int), .int .u8 ((F.cl.self 2 : Nat) : Int), .int .u8 ((F.cl.self 3 : Nat) : Int), .int .u8 ((F.cl.self 4 : Nat) : Int), .int .u8 ((F.cl.self 5 : Nat) : Int), .int .u8 ((F.cl.self 6 : Nat) : Int), .int .u8 ((F.cl.self 7 : Nat) : Int), .int .u8 ((F.cl.self 8 : Nat) : Int), .int .u8 ((F.cl.self 9 : Nat) : Int), .int .u8 ((F.cl.self 10 : Nat) : Int), .int .u8 ((F.cl.self 11 : Nat) : Int), .int .u8 ((F.cl.self 12 : Nat) : Int), .int .u8 ((F.cl.self 13 : Nat) : Int), .int .u8 ((F.cl.self 14 : Nat) : Int), .int .u8 ((F.cl.self 15 : Nat) : Int), .int .u8 ((F.cl.self 16 : Nat) : Int), .int .u8 ((F.cl.self 17 : Nat) : Int), .int .u8 ((F.cl.self 18 : Nat) : Int), .int .u8 ((F.cl.self 19 : Nat) : Int), .int .u8 ((F.cl.caller 0 : Nat) : Int), .int .u8 ((F.cl.caller 1 : Nat) : Int), .int .u8 ((F.cl.caller 2 : Nat) : Int), .int .u8 ((F.cl.caller 3 : Nat) : Int), .int .u8 ((F.cl.caller 4 : Nat) : Int), .int .u8 ((F.cl.caller 5 : Nat) : Int), .int .u8 ((F.cl.caller 6 : Nat) : Int), .int .u8 ((F.cl.caller 7 : Nat) : Int), .int .u8 ((F.cl.caller 8 : Nat) : Int), .int .u8 ((F.cl.caller 9 : Nat) : Int), .int .u8 ((F.cl.caller 10 : Nat) : Int), .int .u8 ((F.cl.caller 11 : Nat) : Int), .int .u8 ((F.cl.caller 12 : Nat) : Int), .int .u8 ((F.cl.caller 13 : Nat) : Int), .int .u8 ((F.cl.caller 14 : Nat) : Int), .int .u8 ((F.cl.caller 15 : Nat) : Int), .int .u8 ((F.cl.caller 16 : Nat) : Int), .int .u8 ((F.cl.caller 17 : Nat) : Int), .int .u8 ((F.cl.caller 18 : Nat) : Int), .int .u8 ((F.cl.caller 19 : Nat) : Int), .int .i64 F.cl.token, .int .u64 ((dg F.cl.amount 0 : Nat) : Int), .int .u64 ((dg F.cl.amount 1 : Nat) : Int), .int .u64 ((dg F.cl.amount 2 : Nat) : Int), .int .u64 ((dg F.cl.amount 3 : Nat) : Int), .slice F.aA F.cl.args.length F.ac, .int .i64 F.cl.time, .int .i64 F.cl.gas, .slice F.qA F.reps.length F.qc]
theorem own_nil5 (b : Nat) : OwnS [(b, Cel [] 5)] (some ⟨b, 0, none⟩) 0 0 (byts []) 5 1 := OwnS.mk (cells := []) (rest := []) rfl (by decide) rfl (by decide)
theorem own_nil31 (b : Nat) : OwnS [(b, Cel [] 31)] (some ⟨b, 0, none⟩) 0 0 (([] : List Nat).flatMap wc) 31 4 := OwnS.mk (cells := []) (rest := []) rfl (by decide) rfl (by decide)
theorem own_nil48 (b : Nat) : OwnS [(b, Cel [] 48)] (some ⟨b, 0, none⟩) 0 0 (([] : List (Nat × Int)).flatMap repc) 48 5 := OwnS.mk (cells := []) (rest := []) rfl (by decide) rfl (by decide)
theorem one_reps (l : List (Nat × Int)) : ∀ v ∈ l.flatMap repc, v.oneCell' = true := by
  intro v hv
  obtain ⟨r, _, hr⟩ := List.mem_flatMap.1 hv
  exact one_repc r v hr
theorem RdK.ownS {w0 w : World} {ks : List Nat} {t s : Seg} {A : Option Addr} {n c sz : Nat} {cells : List Value} {E : TypeId} (hS : St w0 ks [t, s] w) (hO : OwnS t A n c cells E sz) : RdK w (s.map (·.1)) A cells := by
  refine ⟨hO.rd hS .h, fun a ha _ hm => ?_⟩
  obtain ⟨_, _, h3⟩ := hO
  rcases h3 with ⟨h5, h6, h7⟩ | ⟨g, rest, rfl, rfl, _, _⟩
  · simp_all
  · simp only [Option.some.injEq] at ha
    subst ha
    have hn := hS.nodup
    simp only [keys, List.flatten_cons, List.flatten_nil, List.append_nil, List.map_append] at hn
    exact (List.nodup_append.1 hn).2.2 _ (List.mem_map_of_mem (List.mem_singleton.2 rfl)) _ hm rfl

set_option maxHeartbeats 4000000 in
theorem lawrun_calls (F : Fx) (w0 : World) (h0 : Fx.Ok0 F) (hin : InnerOk F) (hC : Rd w0 F.cA (byts F.code)) (hA : Rd w0 F.aA (F.cl.args.flatMap wc)) (hRp : Rd w0 F.qA (F.reps.flatMap repc)) (hI : Rd w0 F.iA (byts F.inner)) (hb1 : F.code.length ≤ 140737488351232) (hb2 : F.cl.args.length ≤ 4398046510976) (hb3 : F.reps.length ≤ 3518437208781) : Ret Try.prog 15 [.agg (plays F).toArray, .slice F.iA F.inner.length F.ic] w0 [] (fun v s => ∃ A c, v = .tuple #[.agg (wc (playN F.cl F.code F.rep).v ++ [Value.int .i64 (playN F.cl F.code F.rep).gas]).toArray, .int .i64 (playN F.cl F.code F.rep).e, .slice A (playN F.cl F.code F.rep).asks.length c] ∧ OwnS s A (playN F.cl F.code F.rep).asks.length c ((playN F.cl F.code F.rep).asks.flatMap askc) 72 30) := by
  refine fn_start Try.func15 rfl Try.ntmps15 rfl [(0, .agg (plays F).toArray), (1, .slice F.iA F.inner.length F.ic)] ⟨rfl, rfl, trivial⟩ ?_
  intro Q a hP hF hR hN
  have hS := St.start w0
  refine wp_seq_k fun K1 hK1 => ?_
  refine wp_region_lit ?_
  refine so (wn rfl) (O.box rfl rfl hF (hF.ev rfl) rfl hS fun b2 a w hF hS => ?_)
  refine so (wn rfl) (O.alloc rfl rfl hF ze39 rfl hS fun b4 a w hF hS => ?_)
  refine sv' hF (wn rfl) rfl rfl (R.assign (hF.ev rfl)) fun a hF => ?_
  refine sv' hF (wn rfl) rfl rfl (R.assign (hF.ev rfl)) fun a hF => ?_
  refine s0 ?_
  refine then_n (hK1 _ _ ?_)
  refine wp_seq_k fun K2 hK2 => ?_
  refine wp_region_lit ?_
  refine so (wn rfl) (O.buildSlice (l := []) rfl rfl hF Try.underlying35 inf48 rfl rfl (hF.evp rfl) (by decide) rfl hS fun b11 a w hF hS => ?_)
  refine sv' hF (wn rfl) rfl rfl (R.fieldAddr (k := 49) Try.underlying37 rfl nz35 (hF.ev rfl) rfl) fun a hF => ?_
  refine sv' hF (wn rfl) rfl rfl (R.load one35 (hF.ev rfl) hS (.t (.t .h)) (rfl)) fun a hF => ?_
  refine so (wn rfl) (O.appendO rfl rfl hF Try.underlying35 inf48 rfl rfl (by decide) (hF.ev rfl) (hF.ev rfl) hS (own_nil48 b11) (fun _ => .h) (hRp.old hS) (reps_length _) (one_reps _) (by unfold maxLen; omega) (by omega) fun A14 c14 s14 a w hO14 hF hS => ?_)
  rw [Nat.zero_add] at hF hO14; rw [List.flatMap_nil, List.nil_append] at hO14
  refine sv' hF (wn rfl) rfl rfl (R.move (hF.ev rfl)) fun a hF => ?_
  refine sv' hF (wn rfl) rfl rfl (R.buildStr (l := [_, _, _]) Try.underlying55 ze55 pl55 (hF.evp rfl) rfl) fun a hF => ?_
  refine so (wn rfl) (O.box rfl rfl hF (hF.ev rfl) rfl hS fun b17 a w hF hS => ?_)
  refine sv' hF (wn rfl) rfl rfl (R.assign (hF.ev rfl)) fun a hF => ?_
  refine s0 ?_
  refine then_n (hK2 _ _ ?_)
  refine wp_seq_k fun K3 hK3 => ?_
  refine wp_region_lit ?_
  refine sv' hF (wn rfl) rfl rfl (R.fieldAddr (k := 1) Try.underlying37 rfl nz34 (hF.ev rfl) rfl) fun a hF => ?_
  refine sv' hF (wn rfl) rfl rfl (R.loadA (cs := [_, _, _, _, _, _, _, _, _, _, _, _, _, _, _, _, _, _, _, _, _, _, _, _, _, _, _, _, _, _, _, _, _, _, _, _, _, _, _, _, _, _, _, _, _, _, _, _]) agg34 (hF.ev rfl) hS (.t (.t (.t .h))) sz34 rfl (getAt rfl)) fun a hF => ?_
  refine so (wn rfl) (O.alloc rfl rfl hF ze34 rfl hS fun b8 a w hF hS => ?_)
  refine so (wn rfl) (O.storeW sz34 (hF.ev rfl) (hF.ev rfl) (rfl) rfl (by simp [Value.oneCell']) hS .h (rfl) fun w hS => ?_)
  refine s0 ?_
  refine then_n (hK3 _ _ ?_)
  refine wp_seq_k fun K4 hK4 => ?_
  refine wp_region_lit ?_
  refine so (wn rfl) (O.buildSlice (l := []) rfl rfl hF Try.underlying32 inf31 rfl rfl (hF.evp rfl) (by decide) rfl hS fun b20 a w hF hS => ?_)
  refine sv' hF (wn rfl) rfl rfl (R.fieldAddr (k := 1) Try.underlying37 rfl nz34 (hF.ev rfl) rfl) fun a hF => ?_
  refine sv' hF (wn rfl) rfl rfl (R.fieldAddr (k := 45) Try.underlying34 rfl nz32 (hF.ev rfl) rfl) fun a hF => ?_
  refine sv' hF (wn rfl) rfl rfl (R.load one32 (hF.ev rfl) hS (.t (.t (.t (.t (.t .h))))) (rfl)) fun a hF => ?_
  refine so (wn rfl) (O.appendO rfl rfl hF Try.underlying32 inf31 rfl rfl (by decide) (hF.ev rfl) (hF.ev rfl) hS (own_nil31 b20) (fun _ => .h) (hA.old hS) (wcs_length _) (wcs_one _) (by unfold maxLen; omega) (by omega) fun A24 c24 s24 a w hO24 hF hS => ?_)
  rw [Nat.zero_add] at hF hO24; rw [List.flatMap_nil, List.nil_append] at hO24
  refine sv' hF (wn rfl) rfl rfl (R.fieldAddr (k := 45) Try.underlying34 rfl nz32 (hF.ev rfl) rfl) fun a hF => ?_
  refine so (wn rfl) (O.store sz32 (hF.ev rfl) (hF.ev rfl) rfl rfl hS (.t .h) (show List.set _ _ _ = callc { F with aA := A24, ac := c24 } from rfl) (by first | decide | omega | (show _ < 59; decide) | (show _ < 3; decide) | simp) fun w hS => ?_)
  refine s0 ?_
  refine then_n (hK4 _ _ ?_)
  refine wp_seq_k fun K5 hK5 => ?_
  refine wp_drawN hS (hS.sel [5, 1] rfl rfl) [(1, 0), (2, 1), (4, 1), (5, 0), (6, 0), (0, 2), (3, 2), (7, 2), (8, 0), (9, 0), (10, 0), (11, 2), (12, 2), (13, 0)] (.node [(1, 0), (2, 1), (4, 1), (5, 0), (6, 0)] (.node [(0, 2)] (.node [(3, 2)] (.leaf [(7, 2), (8, 0), (9, 0), (10, 0), (11, 2), (12, 2), (13, 0)]) (.leaf [(11, 2), (7, 2), (8, 0), (9, 0), (10, 0), (12, 2), (13, 0)])) (.leaf [(11, 2), (3, 2), (7, 2), (8, 0), (9, 0), (10, 0), (12, 2), (13, 0)])) (.leaf [(11, 2), (0, 2), (3, 2), (7, 2), (8, 0), (9, 0), (10, 0), (12, 2), (13, 0)])) mix (by kernel_rfl) (hP.then) fun w hS hD => ?_
  refine dq hF rfl (wn rfl) rfl rfl (fun w => R.fieldAddr (k := 0) Try.underlying37 rfl nz23 (hF.ev rfl) rfl) fun a hF => ?_
  refine dr hF rfl (wn rfl) rfl rfl hD (fun w hD => R.load one23 (hF.ev rfl) hD .h (rfl)) fun a hF => ?_
  refine dr hF rfl (wn rfl) rfl rfl hD (fun w hD => R.loadW agg34 (hF.ev rfl) hD (.t .h) sz34 (rfl)) fun a hF => ?_
  refine dq hF rfl (wn rfl) rfl rfl (fun w => R.move (hF.ev rfl)) fun a hF => ?_
  refine dq hF rfl (wn rfl) rfl rfl (fun w => R.mkI Try.underlying53 (hF.ev rfl)) fun a hF => ?_
  refine d0 ?_
  refine ⟨?_, ?_⟩
  ·
    refine dl rfl (wn rfl) (O.buildSlice (l := []) rfl rfl hF Try.underlying23 inf5 rfl rfl (hF.evp rfl) (by decide) rfl hS fun b27 a w hF hS => ⟨fun hD => hS.sel [6, 2] rfl rfl, ?_⟩)
    have hD := hS.sel [6, 2] rfl rfl
    refine d0 ?_
    refine ⟨?_, ?_⟩
    ·
      refine dl rfl (wn rfl) (O.appendO rfl rfl hF Try.underlying23 inf5 rfl rfl (by decide) (hF.ev rfl) (hF.ev rfl) hS (own_nil5 b27) (fun _ => .h) (hC.old hS) (by rw [length_byts, Nat.mul_one]) (byts_one _) (by unfold maxLen; omega) (by omega) fun A30 c30 s30 a w hO30 hF hS => ⟨fun hD => hS.sel [6, 2] rfl rfl, ?_⟩)
      have hD := hS.sel [6, 2] rfl rfl
      rw [Nat.zero_add] at hF hO30; rw [show byts [] = [] from rfl, List.nil_append] at hO30
      refine d0 ?_
      refine ⟨?_, ?_⟩
      ·
        refine dl rfl (wn rfl) (O.callK rfl rfl hF ent18 (hF.evs rfl) hS (run_calls ({ F with hb := b17, qA := A14, qc := c14, cA := A30, cc := c30, aA := A24, ac := c24 }) [(b17, Cel (hcells ({ F with hb := b17, qA := A14, qc := c14, cA := A30, cc := c30, aA := A24, ac := c24 }) (.slice none 0 0)) 55)] w ⟨h0.byt, hO30.2.1, hO30.cap, h0.argsW, hO24.2.1, hO24.cap, h0.self, h0.caller, h0.amount, h0.reps, h0.qlen⟩ ⟨none, 0, [], rfl, OwnS.nil 72 30⟩ (hS.own1 (.t (.t (.t .h)))) ⟨RdK.ownS (hS.sel [0, 3] rfl rfl) hO30, RdK.ownS (hS.sel [1, 3] rfl rfl) hO24, RdK.ownS (hS.sel [4, 3] rfl rfl) hO14, (RdK.nok hI).down hS (.t (.t (.t .h)))⟩ (next_ok ⟨hin.byt, hin.cap, hin.cap2⟩)) (fun _ => (.t (.t (.t .h)))) fun v s34 a w hR hF hS => ⟨fun hD => hS.sel [6, 2] rfl rfl, ?_⟩)
        obtain ⟨rfl, hH4⟩ := hR
        have hD := hS.sel [6, 2] rfl rfl
        refine dq hF rfl (wn rfl) rfl rfl (fun w => R.move (hF.ev rfl)) fun a hF => ?_
        refine dq hF rfl (wn rfl) rfl rfl (fun w => R.extract (hF.ev rfl) rfl) fun a hF => ?_
        refine dq hF rfl (wn rfl) rfl rfl (fun w => R.extract (hF.ev rfl) rfl) fun a hF => ?_
        refine dl rfl (wn rfl) (O.alloc rfl rfl hF ze39 rfl hS fun b9 a w hF hS => ⟨fun hD => hS.sel [7, 3] rfl rfl, ?_⟩)
        have hD := hS.sel [7, 3] rfl rfl
        refine dl rfl (wn rfl) (O.storeW sz39 (hF.ev rfl) (hF.ev rfl) (rfl) rfl (by simp [Value.oneCell']) hS .h (rfl) fun w hS => ⟨fun hD => hS.sel [7, 3] rfl rfl, ?_⟩)
        have hD := hS.sel [7, 3] rfl rfl
        refine dq hF rfl (wn rfl) rfl rfl (fun w => R.assign (hF.ev rfl)) fun a hF => ?_
        refine d0 ?_
        refine then_n (hK5 _ _ ?_)
        refine wp_seq_k fun K6 hK6 => ?_
        obtain ⟨A5, c5, hg, rfl, hO5⟩ := hH4
        have hS := (hS.sel [0, 6, 4] rfl rfl).flat (bs' := [[(b9, Cel (wc (playN F.cl F.code F.rep).v ++ [Value.int .i64 (playN F.cl F.code F.rep).gas]) 39)], [(b4, Cel [.int .u64 0, .int .u64 0, .int .u64 0, .int .u64 0, .int .i64 0] 39)], [(b17, Cel (hcells ({ F with hb := b17, qA := A14, qc := c14, cA := A30, cc := c30, aA := A24, ac := c24 }) (.slice A5 (playN F.cl F.code F.rep).asks.length c5)) 55)], hg]) rfl
        refine wp_drawG hS (hS.sel [0, 2] rfl rfl) [(0, 1), (1, 0), (2, 0), (3, 0), (4, 0), (5, 1), (6, 2), (7, 0), (8, 0)] mix (by kernel_rfl) (hP.then) fun w hS hD => ?_
        refine dr hF rfl (wn rfl) rfl rfl hD (fun w hD => R.loadW agg39 (hF.ev rfl) hD .h sz39 (rfl)) fun a hF => ?_
        refine dq hF rfl (wn rfl) rfl rfl (fun w => R.move (hF.ev rfl)) fun a hF => ?_
        refine dq hF rfl (wn rfl) rfl rfl (fun w => R.move (hF.ev rfl)) fun a hF => ?_
        refine dq hF rfl (wn rfl) rfl rfl (fun w => R.nilCheck (hF.ev rfl)) fun a hF => ?_
        refine dq hF rfl (wn rfl) rfl rfl (fun w => R.fieldAddr (k := 1) Try.underlying55 rfl nz40 (hF.ev rfl) rfl) fun a hF => ?_
        refine dr hF rfl (wn rfl) rfl rfl hD (fun w hD => R.load one40 (hF.ev rfl) hD (.t .h) (rfl)) fun a hF => ?_
        refine dl rfl (wn rfl) (O.storeW sz39 (hF.ev rfl) (hF.ev rfl) (rfl) rfl (by simp [Value.oneCell']) hS (.t .h) (rfl) fun w hS => ⟨fun hD => hS.sel [0, 2] rfl rfl, ?_⟩)
        have hD := hS.sel [0, 2] rfl rfl
        refine dq hF rfl (wn rfl) rfl rfl (fun w => R.assign (hF.ev rfl)) fun a hF => ?_
        refine dq hF rfl (wn rfl) rfl rfl (fun w => R.assign (hF.ev rfl)) fun a hF => ?_
        refine d0 ?_
        refine then_n (hK6 _ _ ?_)
        refine wp_ret (hR _ _ _ _ _ hF (run_results Try.results15 (.cw hF rfl agg39 hS (.t .h) sz39 (rfl) (.t hF rfl (.t hF rfl (.nil))))) ?_)
        exact ⟨_, hg, rfl, ⟨A5, c5, rfl, hO5⟩, hS.one (.t (.t (.t .h)))⟩
      ·
        refine dl rfl (wn rfl) (O.alloc rfl rfl hF ze39 rfl hS fun b9 a w hF hS => ⟨fun hD => hS.sel [7, 3] rfl rfl, ?_⟩)
        have hD := hS.sel [7, 3] rfl rfl
        refine dl rfl (wn rfl) (O.callK rfl rfl hF ent18 (hF.evs rfl) hS (run_calls ({ F with hb := b17, qA := A14, qc := c14, cA := A30, cc := c30, aA := A24, ac := c24 }) [(b17, Cel (hcells ({ F with hb := b17, qA := A14, qc := c14, cA := A30, cc := c30, aA := A24, ac := c24 }) (.slice none 0 0)) 55)] w ⟨h0.byt, hO30.2.1, hO30.cap, h0.argsW, hO24.2.1, hO24.cap, h0.self, h0.caller, h0.amount, h0.reps, h0.qlen⟩ ⟨none, 0, [], rfl, OwnS.nil 72 30⟩ (hS.own1 (.t (.t (.t (.t .h))))) ⟨RdK.ownS (hS.sel [1, 4] rfl rfl) hO30, RdK.ownS (hS.sel [2, 4] rfl rfl) hO24, RdK.ownS (hS.sel [5, 4] rfl rfl) hO14, (RdK.nok hI).down hS (.t (.t (.t (.t .h))))⟩ (next_ok ⟨hin.byt, hin.cap, hin.cap2⟩)) (fun _ => (.t (.t (.t (.t .h))))) fun v s34 a w hR hF hS => ⟨fun hD => hS.sel [7, 3] rfl rfl, ?_⟩)
        obtain ⟨rfl, hH4⟩ := hR
        have hD := hS.sel [7, 3] rfl rfl
        refine dq hF rfl (wn rfl) rfl rfl (fun w => R.move (hF.ev rfl)) fun a hF => ?_
        refine dq hF rfl (wn rfl) rfl rfl (fun w => R.extract (hF.ev rfl) rfl) fun a hF => ?_
        refine dq hF rfl (wn rfl) rfl rfl (fun w => R.extract (hF.ev rfl) rfl) fun a hF => ?_
        refine dl rfl (wn rfl) (O.storeW sz39 (hF.ev rfl) (hF.ev rfl) (rfl) rfl (by simp [Value.oneCell']) hS .h (rfl) fun w hS => ⟨fun hD => hS.sel [7, 3] rfl rfl, ?_⟩)
        have hD := hS.sel [7, 3] rfl rfl
        refine dq hF rfl (wn rfl) rfl rfl (fun w => R.assign (hF.ev rfl)) fun a hF => ?_
        refine d0 ?_
        refine then_n (hK5 _ _ ?_)
        refine wp_seq_k fun K7 hK7 => ?_
        obtain ⟨A5, c5, hg, rfl, hO5⟩ := hH4
        have hS := (hS.sel [0, 6, 4] rfl rfl).flat (bs' := [[(b9, Cel (wc (playN F.cl F.code F.rep).v ++ [Value.int .i64 (playN F.cl F.code F.rep).gas]) 39)], [(b4, Cel [.int .u64 0, .int .u64 0, .int .u64 0, .int .u64 0, .int .i64 0] 39)], [(b17, Cel (hcells ({ F with hb := b17, qA := A14, qc := c14, cA := A30, cc := c30, aA := A24, ac := c24 }) (.slice A5 (playN F.cl F.code F.rep).asks.length c5)) 55)], hg]) rfl
        refine wp_drawG hS (hS.sel [0, 2] rfl rfl) [(0, 1), (1, 0), (2, 0), (3, 0), (4, 0), (5, 1), (6, 2), (7, 0), (8, 0)] mix (by kernel_rfl) (hP.then) fun w hS hD => ?_
        refine dr hF rfl (wn rfl) rfl rfl hD (fun w hD => R.loadW agg39 (hF.ev rfl) hD .h sz39 (rfl)) fun a hF => ?_
        refine dq hF rfl (wn rfl) rfl rfl (fun w => R.move (hF.ev rfl)) fun a hF => ?_
        refine dq hF rfl (wn rfl) rfl rfl (fun w => R.move (hF.ev rfl)) fun a hF => ?_
        refine dq hF rfl (wn rfl) rfl rfl (fun w => R.nilCheck (hF.ev rfl)) fun a hF => ?_
        refine dq hF rfl (wn rfl) rfl rfl (fun w => R.fieldAddr (k := 1) Try.underlying55 rfl nz40 (hF.ev rfl) rfl) fun a hF => ?_
        refine dr hF rfl (wn rfl) rfl rfl hD (fun w hD => R.load one40 (hF.ev rfl) hD (.t .h) (rfl)) fun a hF => ?_
        refine dl rfl (wn rfl) (O.storeW sz39 (hF.ev rfl) (hF.ev rfl) (rfl) rfl (by simp [Value.oneCell']) hS (.t .h) (rfl) fun w hS => ⟨fun hD => hS.sel [0, 2] rfl rfl, ?_⟩)
        have hD := hS.sel [0, 2] rfl rfl
        refine dq hF rfl (wn rfl) rfl rfl (fun w => R.assign (hF.ev rfl)) fun a hF => ?_
        refine dq hF rfl (wn rfl) rfl rfl (fun w => R.assign (hF.ev rfl)) fun a hF => ?_
        refine d0 ?_
        refine then_n (hK7 _ _ ?_)
        refine wp_ret (hR _ _ _ _ _ hF (run_results Try.results15 (.cw hF rfl agg39 hS (.t .h) sz39 (rfl) (.t hF rfl (.t hF rfl (.nil))))) ?_)
        exact ⟨_, hg, rfl, ⟨A5, c5, rfl, hO5⟩, hS.one (.t (.t (.t .h)))⟩
    ·
      refine dl rfl (wn rfl) (O.alloc rfl rfl hF ze39 rfl hS fun b9 a w hF hS => ⟨fun hD => hS.sel [7, 3] rfl rfl, ?_⟩)
      have hD := hS.sel [7, 3] rfl rfl
      refine dl rfl (wn rfl) (O.appendO rfl rfl hF Try.underlying23 inf5 rfl rfl (by decide) (hF.ev rfl) (hF.ev rfl) hS (own_nil5 b27) (fun _ => (.t .h)) (hC.old hS) (by rw [length_byts, Nat.mul_one]) (byts_one _) (by unfold maxLen; omega) (by omega) fun A30 c30 s30 a w hO30 hF hS => ⟨fun hD => hS.sel [7, 3] rfl rfl, ?_⟩)
      have hD := hS.sel [7, 3] rfl rfl
      rw [Nat.zero_add] at hF hO30; rw [show byts [] = [] from rfl, List.nil_append] at hO30
      refine dl rfl (wn rfl) (O.callK rfl rfl hF ent18 (hF.evs rfl) hS (run_calls ({ F with hb := b17, qA := A14, qc := c14, cA := A30, cc := c30, aA := A24, ac := c24 }) [(b17, Cel (hcells ({ F with hb := b17, qA := A14, qc := c14, cA := A30, cc := c30, aA := A24, ac := c24 }) (.slice none 0 0)) 55)] w ⟨h0.byt, hO30.2.1, hO30.cap, h0.argsW, hO24.2.1, hO24.cap, h0.self, h0.caller, h0.amount, h0.reps, h0.qlen⟩ ⟨none, 0, [], rfl, OwnS.nil 72 30⟩ (hS.own1 (.t (.t (.t (.t .h))))) ⟨RdK.ownS (hS.sel [1, 4] rfl rfl) hO30, RdK.ownS (hS.sel [2, 4] rfl rfl) hO24, RdK.ownS (hS.sel [5, 4] rfl rfl) hO14, (RdK.nok hI).down hS (.t (.t (.t (.t .h))))⟩ (next_ok ⟨hin.byt, hin.cap, hin.cap2⟩)) (fun _ => (.t (.t (.t (.t .h))))) fun v s34 a w hR hF hS => ⟨fun hD => hS.sel [7, 3] rfl rfl, ?_⟩)
      obtain ⟨rfl, hH4⟩ := hR
      have hD := hS.sel [7, 3] rfl rfl
      refine dq hF rfl (wn rfl) rfl rfl (fun w => R.move (hF.ev rfl)) fun a hF => ?_
      refine dq hF rfl (wn rfl) rfl rfl (fun w => R.extract (hF.ev rfl) rfl) fun a hF => ?_
      refine dq hF rfl (wn rfl) rfl rfl (fun w => R.extract (hF.ev rfl) rfl) fun a hF => ?_
      refine dl rfl (wn rfl) (O.storeW sz39 (hF.ev rfl) (hF.ev rfl) (rfl) rfl (by simp [Value.oneCell']) hS .h (rfl) fun w hS => ⟨fun hD => hS.sel [7, 3] rfl rfl, ?_⟩)
      have hD := hS.sel [7, 3] rfl rfl
      refine dq hF rfl (wn rfl) rfl rfl (fun w => R.assign (hF.ev rfl)) fun a hF => ?_
      refine d0 ?_
      refine then_n (hK5 _ _ ?_)
      refine wp_seq_k fun K8 hK8 => ?_
      obtain ⟨A5, c5, hg, rfl, hO5⟩ := hH4
      have hS := (hS.sel [0, 6, 4] rfl rfl).flat (bs' := [[(b9, Cel (wc (playN F.cl F.code F.rep).v ++ [Value.int .i64 (playN F.cl F.code F.rep).gas]) 39)], [(b4, Cel [.int .u64 0, .int .u64 0, .int .u64 0, .int .u64 0, .int .i64 0] 39)], [(b17, Cel (hcells ({ F with hb := b17, qA := A14, qc := c14, cA := A30, cc := c30, aA := A24, ac := c24 }) (.slice A5 (playN F.cl F.code F.rep).asks.length c5)) 55)], hg]) rfl
      refine wp_drawG hS (hS.sel [0, 2] rfl rfl) [(0, 1), (1, 0), (2, 0), (3, 0), (4, 0), (5, 1), (6, 2), (7, 0), (8, 0)] mix (by kernel_rfl) (hP.then) fun w hS hD => ?_
      refine dr hF rfl (wn rfl) rfl rfl hD (fun w hD => R.loadW agg39 (hF.ev rfl) hD .h sz39 (rfl)) fun a hF => ?_
      refine dq hF rfl (wn rfl) rfl rfl (fun w => R.move (hF.ev rfl)) fun a hF => ?_
      refine dq hF rfl (wn rfl) rfl rfl (fun w => R.move (hF.ev rfl)) fun a hF => ?_
      refine dq hF rfl (wn rfl) rfl rfl (fun w => R.nilCheck (hF.ev rfl)) fun a hF => ?_
      refine dq hF rfl (wn rfl) rfl rfl (fun w => R.fieldAddr (k := 1) Try.underlying55 rfl nz40 (hF.ev rfl) rfl) fun a hF => ?_
      refine dr hF rfl (wn rfl) rfl rfl hD (fun w hD => R.load one40 (hF.ev rfl) hD (.t .h) (rfl)) fun a hF => ?_
      refine dl rfl (wn rfl) (O.storeW sz39 (hF.ev rfl) (hF.ev rfl) (rfl) rfl (by simp [Value.oneCell']) hS (.t .h) (rfl) fun w hS => ⟨fun hD => hS.sel [0, 2] rfl rfl, ?_⟩)
      have hD := hS.sel [0, 2] rfl rfl
      refine dq hF rfl (wn rfl) rfl rfl (fun w => R.assign (hF.ev rfl)) fun a hF => ?_
      refine dq hF rfl (wn rfl) rfl rfl (fun w => R.assign (hF.ev rfl)) fun a hF => ?_
      refine d0 ?_
      refine then_n (hK8 _ _ ?_)
      refine wp_ret (hR _ _ _ _ _ hF (run_results Try.results15 (.cw hF rfl agg39 hS (.t .h) sz39 (rfl) (.t hF rfl (.t hF rfl (.nil))))) ?_)
      exact ⟨_, hg, rfl, ⟨A5, c5, rfl, hO5⟩, hS.one (.t (.t (.t .h)))⟩
  ·
    refine dl rfl (wn rfl) (O.alloc rfl rfl hF ze39 rfl hS fun b9 a w hF hS => ⟨fun hD => hS.sel [6, 2] rfl rfl, ?_⟩)
    have hD := hS.sel [6, 2] rfl rfl
    refine dl rfl (wn rfl) (O.buildSlice (l := []) rfl rfl hF Try.underlying23 inf5 rfl rfl (hF.evp rfl) (by decide) rfl hS fun b27 a w hF hS => ⟨fun hD => hS.sel [7, 3] rfl rfl, ?_⟩)
    have hD := hS.sel [7, 3] rfl rfl
    refine dl rfl (wn rfl) (O.appendO rfl rfl hF Try.underlying23 inf5 rfl rfl (by decide) (hF.ev rfl) (hF.ev rfl) hS (own_nil5 b27) (fun _ => .h) (hC.old hS) (by rw [length_byts, Nat.mul_one]) (byts_one _) (by unfold maxLen; omega) (by omega) fun A30 c30 s30 a w hO30 hF hS => ⟨fun hD => hS.sel [7, 3] rfl rfl, ?_⟩)
    have hD := hS.sel [7, 3] rfl rfl
    rw [Nat.zero_add] at hF hO30; rw [show byts [] = [] from rfl, List.nil_append] at hO30
    refine dl rfl (wn rfl) (O.callK rfl rfl hF ent18 (hF.evs rfl) hS (run_calls ({ F with hb := b17, qA := A14, qc := c14, cA := A30, cc := c30, aA := A24, ac := c24 }) [(b17, Cel (hcells ({ F with hb := b17, qA := A14, qc := c14, cA := A30, cc := c30, aA := A24, ac := c24 }) (.slice none 0 0)) 55)] w ⟨h0.byt, hO30.2.1, hO30.cap, h0.argsW, hO24.2.1, hO24.cap, h0.self, h0.caller, h0.amount, h0.reps, h0.qlen⟩ ⟨none, 0, [], rfl, OwnS.nil 72 30⟩ (hS.own1 (.t (.t (.t (.t .h))))) ⟨RdK.ownS (hS.sel [0, 4] rfl rfl) hO30, RdK.ownS (hS.sel [2, 4] rfl rfl) hO24, RdK.ownS (hS.sel [5, 4] rfl rfl) hO14, (RdK.nok hI).down hS (.t (.t (.t (.t .h))))⟩ (next_ok ⟨hin.byt, hin.cap, hin.cap2⟩)) (fun _ => (.t (.t (.t (.t .h))))) fun v s34 a w hR hF hS => ⟨fun hD => hS.sel [7, 3] rfl rfl, ?_⟩)
    obtain ⟨rfl, hH4⟩ := hR
    have hD := hS.sel [7, 3] rfl rfl
    refine dq hF rfl (wn rfl) rfl rfl (fun w => R.move (hF.ev rfl)) fun a hF => ?_
    refine dq hF rfl (wn rfl) rfl rfl (fun w => R.extract (hF.ev rfl) rfl) fun a hF => ?_
    refine dq hF rfl (wn rfl) rfl rfl (fun w => R.extract (hF.ev rfl) rfl) fun a hF => ?_
    refine dl rfl (wn rfl) (O.storeW sz39 (hF.ev rfl) (hF.ev rfl) (rfl) rfl (by simp [Value.oneCell']) hS (.t .h) (rfl) fun w hS => ⟨fun hD => hS.sel [7, 3] rfl rfl, ?_⟩)
    have hD := hS.sel [7, 3] rfl rfl
    refine dq hF rfl (wn rfl) rfl rfl (fun w => R.assign (hF.ev rfl)) fun a hF => ?_
    refine d0 ?_
    refine then_n (hK5 _ _ ?_)
    refine wp_seq_k fun K9 hK9 => ?_
    obtain ⟨A5, c5, hg, rfl, hO5⟩ := hH4
    have hS := (hS.sel [1, 6, 4] rfl rfl).flat (bs' := [[(b9, Cel (wc (playN F.cl F.code F.rep).v ++ [Value.int .i64 (playN F.cl F.code F.rep).gas]) 39)], [(b4, Cel [.int .u64 0, .int .u64 0, .int .u64 0, .int .u64 0, .int .i64 0] 39)], [(b17, Cel (hcells ({ F with hb := b17, qA := A14, qc := c14, cA := A30, cc := c30, aA := A24, ac := c24 }) (.slice A5 (playN F.cl F.code F.rep).asks.length c5)) 55)], hg]) rfl
    refine wp_drawG hS (hS.sel [0, 2] rfl rfl) [(0, 1), (1, 0), (2, 0), (3, 0), (4, 0), (5, 1), (6, 2), (7, 0), (8, 0)] mix (by kernel_rfl) (hP.then) fun w hS hD => ?_
    refine dr hF rfl (wn rfl) rfl rfl hD (fun w hD => R.loadW agg39 (hF.ev rfl) hD .h sz39 (rfl)) fun a hF => ?_
    refine dq hF rfl (wn rfl) rfl rfl (fun w => R.move (hF.ev rfl)) fun a hF => ?_
    refine dq hF rfl (wn rfl) rfl rfl (fun w => R.move (hF.ev rfl)) fun a hF => ?_
    refine dq hF rfl (wn rfl) rfl rfl (fun w => R.nilCheck (hF.ev rfl)) fun a hF => ?_
    refine dq hF rfl (wn rfl) rfl rfl (fun w => R.fieldAddr (k := 1) Try.underlying55 rfl nz40 (hF.ev rfl) rfl) fun a hF => ?_
    refine dr hF rfl (wn rfl) rfl rfl hD (fun w hD => R.load one40 (hF.ev rfl) hD (.t .h) (rfl)) fun a hF => ?_
    refine dl rfl (wn rfl) (O.storeW sz39 (hF.ev rfl) (hF.ev rfl) (rfl) rfl (by simp [Value.oneCell']) hS (.t .h) (rfl) fun w hS => ⟨fun hD => hS.sel [0, 2] rfl rfl, ?_⟩)
    have hD := hS.sel [0, 2] rfl rfl
    refine dq hF rfl (wn rfl) rfl rfl (fun w => R.assign (hF.ev rfl)) fun a hF => ?_
    refine dq hF rfl (wn rfl) rfl rfl (fun w => R.assign (hF.ev rfl)) fun a hF => ?_
    refine d0 ?_
    refine then_n (hK9 _ _ ?_)
    refine wp_ret (hR _ _ _ _ _ hF (run_results Try.results15 (.cw hF rfl agg39 hS (.t .h) sz39 (rfl) (.t hF rfl (.t hF rfl (.nil))))) ?_)
    exact ⟨_, hg, rfl, ⟨A5, c5, rfl, hO5⟩, hS.one (.t (.t (.t .h)))⟩

end Go.Proofs.Ytlapmbkfmbkdoaa
