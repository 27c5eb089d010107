/- MachineDifference: four small programs walked. -/
import Derived.Test.YtlapmbkfmbkdoaaFh
namespace Go.Proofs.Ytlapmbkfmbkdoaa
open Go Go.Fw Go.RowKit
attribute [local irreducible] Go.Oper.wp Go.Code.wp Go.wpList Go.Fw.WL Go.Calls
def twoF (A : Option Addr) (ca : Nat) (code : List Nat) (B : Option Addr) (cb : Nat) (x y : Nat) : Fx := { rb := 0, hb := 0, cA := A, cc := ca, code := code, aA := B, ac := cb, cl := twoC x y, qA := none, qc := 0, reps := [], iA := none, ic := 0, inner := [] }
theorem two_in {A B : Option Addr} {ca cb x y : Nat} {code : List Nat} {w : World} (hI : Rd w A (byts code)) (hB : Byt code) (hc : code.length ≤ ca) (hc2 : ca ≤ 9223372036854775807) (hb : code.length ≤ 140737488351232) (hA : Rd w B ([x, y].flatMap wc)) (hx : x < 115792089237316195423570985008687907853269984665640564039457584007913129639936) (hy : y < 115792089237316195423570985008687907853269984665640564039457584007913129639936) (h2 : 2 ≤ cb) (hcb : cb ≤ 9223372036854775807) : PlayIn (twoF A ca code B cb x y) w :=
  ⟨⟨hB, hc, hc2, by intro z hz; simp [twoF, twoC] at hz; rcases hz with rfl | rfl <;> assumption, h2, hcb, fun _ => by show 0 < 256; decide, fun _ => by show 0 < 256; decide, by show 0 < _; decide, by intro r hr; simp [twoF] at hr, Nat.zero_le _⟩, rfl, hI, hA, Rd.nil _ _, hb, by show 2 ≤ _; decide, Nat.zero_le _, ⟨by show _ ≤ (0 : Int); decide, by show (0 : Int) ≤ _; decide⟩, ⟨by show _ ≤ (0 : Int); decide, by show (0 : Int) ≤ _; decide⟩, ⟨by show _ ≤ (100 : Int); decide, by show (100 : Int) ≤ _; decide⟩, by intro r hr; simp [twoF] at hr⟩
def pre4 (l : List Nat) : List Nat := [16, 0, 16, 1] ++ l
theorem pre4_len (l : List Nat) : (pre4 l).length = 4 + l.length := by simp [pre4]; omega
theorem byt4 {l : List Nat} (h : Byt l) : Byt (pre4 l) := by
  intro d hd
  rcases List.mem_append.1 hd with h1 | h1
  · simp at h1; omega
  · exact h d h1
theorem own_pre4 (b : Nat) : OwnS [(b, Cel (byts [16, 0, 16, 1]) 5)] (some ⟨b, 0, none⟩) 4 4 (byts [16, 0, 16, 1]) 5 1 := OwnS.mk (cells := byts [16, 0, 16, 1]) (rest := []) rfl (by decide) rfl (by decide)
theorem own_wc2 (b x y : Nat) : OwnS [(b, Cel ([x, y].flatMap wc) 31)] (some ⟨b, 0, none⟩) 2 2 ([x, y].flatMap wc) 31 4 := OwnS.mk (cells := [x, y].flatMap wc) (rest := []) rfl (by decide) rfl (by decide)
theorem playTwo (A B : Option Addr) (ca cb x y : Nat) (code : List Nat) (w0 : World) (hp : PlayIn (twoF A ca code B cb x y) w0) : Ret Try.prog 15 [.agg (plays (twoF A ca code B cb x y)).toArray, .slice none 0 0] w0 [] (RunR (playN (twoC x y) code fun _ => (0, 0))) := by
  have := play0 (twoF A ca code B cb x y) w0 hp
  exact this

set_option maxHeartbeats 4000000 in
theorem two_calls (b1 b2 x y : Nat) (A : Option Addr) (n c : Nat) (l : List Nat) (w0 : World) (hA : Rd w0 A (byts l)) (hn : l.length = n) (hB : Byt l) (hb : n ≤ 1000) (hX : Rd w0 (some ⟨b1, 0, none⟩) (wc x)) (hY : Rd w0 (some ⟨b2, 0, none⟩) (wc y)) (hx : x < 115792089237316195423570985008687907853269984665640564039457584007913129639936) (hy : y < 115792089237316195423570985008687907853269984665640564039457584007913129639936) : Ret Try.prog 19 [.slice A n c, .pointer (some ⟨b1, 0, none⟩), .pointer (some ⟨b2, 0, none⟩)] w0 [] (fun v s => v = .tuple #[wv (playN (twoC x y) (pre4 l) (fun _ => (0, 0))).v, .int .i64 (playN (twoC x y) (pre4 l) (fun _ => (0, 0))).e] ∧ s = []) := by
  refine fn_start Try.func19 rfl Try.ntmps19 rfl [(0, .slice A n c), (1, .pointer (some ⟨b1, 0, none⟩)), (2, .pointer (some ⟨b2, 0, none⟩))] ⟨rfl, rfl, rfl, trivial⟩ ?_
  intro Q a hP hF hR hN
  have hS := St.start w0
  refine wp_seq_k fun K1 hK1 => ?_
  refine wp_region_lit ?_
  refine so (wn rfl) (O.alloc rfl rfl hF ze31 rfl hS fun b4 a w hF hS => ?_)
  refine sv' hF (wn rfl) rfl rfl (R.assign (hF.ev rfl)) fun a hF => ?_
  refine s0 ?_
  refine then_n (hK1 _ _ ?_)
  refine wp_seq_k fun K2 hK2 => ?_
  refine wp_drawN hS (hS.sel [] rfl rfl) [(1, 0), (3, 1), (4, 1), (0, 2), (2, 2), (5, 2), (6, 0), (7, 0), (8, 2), (9, 0), (10, 0), (11, 0), (12, 0), (13, 2), (14, 2), (15, 0), (16, 0)] (.node [(1, 0), (3, 1), (4, 1)] (.node [(0, 2)] (.node [(2, 2)] (.node [(5, 2), (6, 0), (7, 0)] (.leaf [(8, 2), (9, 0), (10, 0), (11, 0), (12, 0), (13, 2), (14, 2), (15, 0), (16, 0)]) (.leaf [(13, 2), (8, 2), (9, 0), (10, 0), (11, 0), (12, 0), (14, 2), (15, 0), (16, 0)])) (.leaf [(13, 2), (5, 2), (6, 0), (7, 0), (8, 2), (9, 0), (10, 0), (11, 0), (12, 0), (14, 2), (15, 0), (16, 0)])) (.node [] (.node [(5, 2), (6, 0)] (.node [(2, 2), (7, 0)] (.leaf [(8, 2), (9, 0), (10, 0), (11, 0), (12, 0), (13, 2), (14, 2), (15, 0), (16, 0)]) (.leaf [(13, 2), (8, 2), (9, 0), (10, 0), (11, 0), (12, 0), (14, 2), (15, 0), (16, 0)])) (.leaf [(13, 2), (2, 2), (7, 0), (8, 2), (9, 0), (10, 0), (11, 0), (12, 0), (14, 2), (15, 0), (16, 0)])) (.node [(13, 2)] (.leaf [(2, 2), (5, 2), (6, 0), (7, 0), (8, 2), (9, 0), (10, 0), (11, 0), (12, 0), (14, 2), (15, 0), (16, 0)]) (.leaf [(5, 2), (6, 0), (2, 2), (7, 0), (8, 2), (9, 0), (10, 0), (11, 0), (12, 0), (14, 2), (15, 0), (16, 0)])))) (.node [] (.node [(5, 2), (6, 0)] (.node [(0, 2)] (.node [(2, 2), (7, 0)] (.leaf [(8, 2), (9, 0), (10, 0), (11, 0), (12, 0), (13, 2), (14, 2), (15, 0), (16, 0)]) (.leaf [(13, 2), (8, 2), (9, 0), (10, 0), (11, 0), (12, 0), (14, 2), (15, 0), (16, 0)])) (.leaf [(13, 2), (2, 2), (7, 0), (8, 2), (9, 0), (10, 0), (11, 0), (12, 0), (14, 2), (15, 0), (16, 0)])) (.leaf [(13, 2), (0, 2), (2, 2), (7, 0), (8, 2), (9, 0), (10, 0), (11, 0), (12, 0), (14, 2), (15, 0), (16, 0)])) (.node [(13, 2)] (.node [(0, 2)] (.leaf [(2, 2), (5, 2), (6, 0), (7, 0), (8, 2), (9, 0), (10, 0), (11, 0), (12, 0), (14, 2), (15, 0), (16, 0)]) (.leaf [(5, 2), (6, 0), (2, 2), (7, 0), (8, 2), (9, 0), (10, 0), (11, 0), (12, 0), (14, 2), (15, 0), (16, 0)])) (.leaf [(5, 2), (6, 0), (0, 2), (2, 2), (7, 0), (8, 2), (9, 0), (10, 0), (11, 0), (12, 0), (14, 2), (15, 0), (16, 0)])))) mix (by kernel_rfl) (hP.then) fun w hS hD => ?_
  refine dq hF rfl (wn rfl) rfl rfl (fun w => R.move (hF.ev rfl)) fun a hF => ?_
  refine dr hF rfl (wn rfl) rfl rfl hD (fun w hD => R.loadAO (k := 0) (cs := wc x) agg31 (hF.ev rfl) (hX.old hD) sz31 rfl (Nat.succ_pos _) (fun j v h => by simpa using h)) fun a hF => ?_
  refine dr hF rfl (wn rfl) rfl rfl hD (fun w hD => R.loadAO (k := 0) (cs := wc y) agg31 (hF.ev rfl) (hY.old hD) sz31 rfl (Nat.succ_pos _) (fun j v h => by simpa using h)) fun a hF => ?_
  refine d0 ?_
  refine ⟨?_, nd0 ⟨?_, ?_⟩⟩
  ·
    refine dl rfl (wn rfl) (O.buildSlice (l := [_, _, _, _]) rfl rfl hF Try.underlying23 inf5 rfl rfl (hF.evp rfl) (by decide) rfl hS fun b10 a w hF hS => ⟨fun hD => hS.sel [] rfl rfl, ?_⟩)
    have hD := hS.sel [] rfl rfl
    refine d0 ?_
    refine ⟨?_, nd0 ⟨?_, ?_⟩⟩
    ·
      refine dl rfl (wn rfl) (O.appendO rfl rfl hF Try.underlying23 inf5 rfl rfl (by decide) (hF.ev rfl) (hF.ev rfl) hS (own_pre4 b10) (fun _ => .h) (hA.old hS) (by rw [length_byts, Nat.mul_one, hn]) (byts_one _) (by unfold maxLen; omega) (by omega) fun A12 c12 s12 a w hO12 hF hS => ⟨fun hD => hS.sel [] rfl rfl, ?_⟩)
      have hD := hS.sel [] rfl rfl
      rw [show 4 + n = (pre4 l).length by rw [pre4_len, hn]] at hF hO12; rw [byts_append] at hO12
      refine d0 ?_
      refine ⟨?_, ?_⟩
      ·
        refine dl rfl (wn rfl) (O.buildSlice (l := [x, y].flatMap wc) rfl rfl hF Try.underlying32 inf31 rfl rfl (hF.evp rfl) (by decide) rfl hS fun b15 a w hF hS => ⟨fun hD => hS.sel [] rfl rfl, ?_⟩)
        have hD := hS.sel [] rfl rfl
        refine dq hF rfl (wn rfl) rfl rfl (fun w => R.buildStr (l := callc (twoF none 0 (pre4 l) (some ⟨b15, 0, none⟩) 2 x y)) Try.underlying34 ze34 pl34 (hF.evp rfl) (by kernel_rfl)) fun a hF => ?_
        refine dq hF rfl (wn rfl) rfl rfl (fun w => R.buildStr (l := plays (twoF A12 c12 (pre4 l) (some ⟨b15, 0, none⟩) 2 x y)) Try.underlying37 ze37 pl37 (hF.evp rfl) (by kernel_rfl)) fun a hF => ?_
        refine d0 ?_
        refine ⟨?_, ?_⟩
        ·
          refine dl rfl (wn rfl) (O.call rfl rfl hF ent15 (hF.evs rfl) hS (playTwo A12 (some ⟨b15, 0, none⟩) c12 2 x y (pre4 l) w (two_in (hO12.rd hS (by first | exact .h | exact .t .h | exact .t (.t .h) | exact .t (.t (.t .h)) | exact .t (.t (.t (.t .h))) | exact .t (.t (.t (.t (.t .h)))) | exact .t (.t (.t (.t (.t (.t .h))))) | exact .t (.t (.t (.t (.t (.t (.t .h)))))) | exact .t (.t (.t (.t (.t (.t (.t (.t .h))))))))) (byt4 hB) hO12.2.1 hO12.cap (by rw [pre4_len]; omega) (Rd.own0 hS .h) hx hy (by decide) (by decide))) fun v s18 a w hR hF hS => ⟨fun hD => hS.sel [] rfl rfl, ?_⟩)
          obtain ⟨A18, c18, rfl, hO18⟩ := hR
          have hD := hS.sel [] rfl rfl
          refine dq hF rfl (wn rfl) rfl rfl (fun w => R.move (hF.ev rfl)) fun a hF => ?_
          refine dq hF rfl (wn rfl) rfl rfl (fun w => R.extract (hF.ev rfl) rfl) fun a hF => ?_
          refine dq hF rfl (wn rfl) rfl rfl (fun w => R.extract (hF.ev rfl) rfl) fun a hF => ?_
          refine dq hF rfl (wn rfl) rfl rfl (fun w => R.extract (hF.ev rfl) rfl) fun a hF => ?_
          refine dl rfl (wn rfl) (O.alloc rfl rfl hF ze39 rfl hS fun b6 a w hF hS => ⟨fun hD => hS.sel [] rfl rfl, ?_⟩)
          have hD := hS.sel [] rfl rfl
          refine dl rfl (wn rfl) (O.storeW sz39 (hF.ev rfl) (hF.ev rfl) (rfl) rfl (by simp [Value.oneCell']) hS .h (rfl) fun w hS => ⟨fun hD => hS.sel [] rfl rfl, ?_⟩)
          have hD := hS.sel [] rfl rfl
          refine dq hF rfl (wn rfl) rfl rfl (fun w => R.assign (hF.ev rfl)) fun a hF => ?_
          refine dq hF rfl (wn rfl) rfl rfl (fun w => R.assign (hF.ev rfl)) fun a hF => ?_
          refine d0 ?_
          refine then_n (hK2 _ _ ?_)
          refine wp_seq_k fun K3 hK3 => ?_
          refine wp_region_lit ?_
          refine sv' hF (wn rfl) rfl rfl (R.fieldAddr (k := 0) Try.underlying39 rfl nz31 (hF.ev rfl) rfl) fun a hF => ?_
          refine sv' hF (wn rfl) rfl rfl (R.loadA (cs := [_, _, _, _]) agg31 (hF.ev rfl) hS .h sz31 rfl (getAt rfl)) fun a hF => ?_
          refine sv' hF (wn rfl) rfl rfl (R.move (hF.ev rfl)) fun a hF => ?_
          refine so (wn rfl) (O.storeW sz31 (hF.ev rfl) (hF.ev rfl) (rfl) rfl (by simp [Value.oneCell']) hS (.t (.t (.t (.t .h)))) (rfl) fun w hS => ?_)
          refine sv' hF (wn rfl) rfl rfl (R.assign (hF.ev rfl)) fun a hF => ?_
          refine s0 ?_
          refine then_n (hK3 _ _ ?_)
          refine wp_ret (hR _ _ _ _ _ hF (run_results Try.results19 (.cw hF rfl agg31 hS (.t (.t (.t (.t .h)))) sz31 (rfl) (.t hF rfl (.nil)))) ?_)
          exact ⟨_, [], rfl, ⟨rfl, rfl⟩, hS.none⟩
        ·
          refine dl rfl (wn rfl) (O.alloc rfl rfl hF ze39 rfl hS fun b6 a w hF hS => ⟨fun hD => hS.sel [] rfl rfl, ?_⟩)
          have hD := hS.sel [] rfl rfl
          refine dl rfl (wn rfl) (O.call rfl rfl hF ent15 (hF.evs rfl) hS (playTwo A12 (some ⟨b15, 0, none⟩) c12 2 x y (pre4 l) w (two_in (hO12.rd hS (by first | exact .h | exact .t .h | exact .t (.t .h) | exact .t (.t (.t .h)) | exact .t (.t (.t (.t .h))) | exact .t (.t (.t (.t (.t .h)))) | exact .t (.t (.t (.t (.t (.t .h))))) | exact .t (.t (.t (.t (.t (.t (.t .h)))))) | exact .t (.t (.t (.t (.t (.t (.t (.t .h))))))))) (byt4 hB) hO12.2.1 hO12.cap (by rw [pre4_len]; omega) (Rd.own0 hS (.t .h)) hx hy (by decide) (by decide))) fun v s18 a w hR hF hS => ⟨fun hD => hS.sel [] rfl rfl, ?_⟩)
          obtain ⟨A18, c18, rfl, hO18⟩ := hR
          have hD := hS.sel [] rfl rfl
          refine dq hF rfl (wn rfl) rfl rfl (fun w => R.move (hF.ev rfl)) fun a hF => ?_
          refine dq hF rfl (wn rfl) rfl rfl (fun w => R.extract (hF.ev rfl) rfl) fun a hF => ?_
          refine dq hF rfl (wn rfl) rfl rfl (fun w => R.extract (hF.ev rfl) rfl) fun a hF => ?_
          refine dq hF rfl (wn rfl) rfl rfl (fun w => R.extract (hF.ev rfl) rfl) fun a hF => ?_
          refine dl rfl (wn rfl) (O.storeW sz39 (hF.ev rfl) (hF.ev rfl) (rfl) rfl (by simp [Value.oneCell']) hS (.t .h) (rfl) fun w hS => ⟨fun hD => hS.sel [] rfl rfl, ?_⟩)
          have hD := hS.sel [] rfl rfl
          refine dq hF rfl (wn rfl) rfl rfl (fun w => R.assign (hF.ev rfl)) fun a hF => ?_
          refine dq hF rfl (wn rfl) rfl rfl (fun w => R.assign (hF.ev rfl)) fun a hF => ?_
          refine d0 ?_
          refine then_n (hK2 _ _ ?_)
          refine wp_seq_k fun K4 hK4 => ?_
          refine wp_region_lit ?_
          refine sv' hF (wn rfl) rfl rfl (R.fieldAddr (k := 0) Try.underlying39 rfl nz31 (hF.ev rfl) rfl) fun a hF => ?_
          refine sv' hF (wn rfl) rfl rfl (R.loadA (cs := [_, _, _, _]) agg31 (hF.ev rfl) hS (.t .h) sz31 rfl (getAt rfl)) fun a hF => ?_
          refine sv' hF (wn rfl) rfl rfl (R.move (hF.ev rfl)) fun a hF => ?_
          refine so (wn rfl) (O.storeW sz31 (hF.ev rfl) (hF.ev rfl) (rfl) rfl (by simp [Value.oneCell']) hS (.t (.t (.t (.t .h)))) (rfl) fun w hS => ?_)
          refine sv' hF (wn rfl) rfl rfl (R.assign (hF.ev rfl)) fun a hF => ?_
          refine s0 ?_
          refine then_n (hK4 _ _ ?_)
          refine wp_ret (hR _ _ _ _ _ hF (run_results Try.results19 (.cw hF rfl agg31 hS (.t (.t (.t (.t .h)))) sz31 (rfl) (.t hF rfl (.nil)))) ?_)
          exact ⟨_, [], rfl, ⟨rfl, rfl⟩, hS.none⟩
      ·
        refine dl rfl (wn rfl) (O.alloc rfl rfl hF ze39 rfl hS fun b6 a w hF hS => ⟨fun hD => hS.sel [] rfl rfl, ?_⟩)
        have hD := hS.sel [] rfl rfl
        refine dl rfl (wn rfl) (O.buildSlice (l := [x, y].flatMap wc) rfl rfl hF Try.underlying32 inf31 rfl rfl (hF.evp rfl) (by decide) rfl hS fun b15 a w hF hS => ⟨fun hD => hS.sel [] rfl rfl, ?_⟩)
        have hD := hS.sel [] rfl rfl
        refine dq hF rfl (wn rfl) rfl rfl (fun w => R.buildStr (l := callc (twoF none 0 (pre4 l) (some ⟨b15, 0, none⟩) 2 x y)) Try.underlying34 ze34 pl34 (hF.evp rfl) (by kernel_rfl)) fun a hF => ?_
        refine dq hF rfl (wn rfl) rfl rfl (fun w => R.buildStr (l := plays (twoF A12 c12 (pre4 l) (some ⟨b15, 0, none⟩) 2 x y)) Try.underlying37 ze37 pl37 (hF.evp rfl) (by kernel_rfl)) fun a hF => ?_
        refine dl rfl (wn rfl) (O.call rfl rfl hF ent15 (hF.evs rfl) hS (playTwo A12 (some ⟨b15, 0, none⟩) c12 2 x y (pre4 l) w (two_in (hO12.rd hS (by first | exact .h | exact .t .h | exact .t (.t .h) | exact .t (.t (.t .h)) | exact .t (.t (.t (.t .h))) | exact .t (.t (.t (.t (.t .h)))) | exact .t (.t (.t (.t (.t (.t .h))))) | exact .t (.t (.t (.t (.t (.t (.t .h)))))) | exact .t (.t (.t (.t (.t (.t (.t (.t .h))))))))) (byt4 hB) hO12.2.1 hO12.cap (by rw [pre4_len]; omega) (Rd.own0 hS .h) hx hy (by decide) (by decide))) fun v s18 a w hR hF hS => ⟨fun hD => hS.sel [] rfl rfl, ?_⟩)
        obtain ⟨A18, c18, rfl, hO18⟩ := hR
        have hD := hS.sel [] rfl rfl
        refine dq hF rfl (wn rfl) rfl rfl (fun w => R.move (hF.ev rfl)) fun a hF => ?_
        refine dq hF rfl (wn rfl) rfl rfl (fun w => R.extract (hF.ev rfl) rfl) fun a hF => ?_
        refine dq hF rfl (wn rfl) rfl rfl (fun w => R.extract (hF.ev rfl) rfl) fun a hF => ?_
        refine dq hF rfl (wn rfl) rfl rfl (fun w => R.extract (hF.ev rfl) rfl) fun a hF => ?_
        refine dl rfl (wn rfl) (O.storeW sz39 (hF.ev rfl) (hF.ev rfl) (rfl) rfl (by simp [Value.oneCell']) hS (.t (.t .h)) (rfl) fun w hS => ⟨fun hD => hS.sel [] rfl rfl, ?_⟩)
        have hD := hS.sel [] rfl rfl
        refine dq hF rfl (wn rfl) rfl rfl (fun w => R.assign (hF.ev rfl)) fun a hF => ?_
        refine dq hF rfl (wn rfl) rfl rfl (fun w => R.assign (hF.ev rfl)) fun a hF => ?_
        refine d0 ?_
        refine then_n (hK2 _ _ ?_)
        refine wp_seq_k fun K5 hK5 => ?_
        refine wp_region_lit ?_
        refine sv' hF (wn rfl) rfl rfl (R.fieldAddr (k := 0) Try.underlying39 rfl nz31 (hF.ev rfl) rfl) fun a hF => ?_
        refine sv' hF (wn rfl) rfl rfl (R.loadA (cs := [_, _, _, _]) agg31 (hF.ev rfl) hS (.t (.t .h)) sz31 rfl (getAt rfl)) fun a hF => ?_
        refine sv' hF (wn rfl) rfl rfl (R.move (hF.ev rfl)) fun a hF => ?_
        refine so (wn rfl) (O.storeW sz31 (hF.ev rfl) (hF.ev rfl) (rfl) rfl (by simp [Value.oneCell']) hS (.t (.t (.t (.t .h)))) (rfl) fun w hS => ?_)
        refine sv' hF (wn rfl) rfl rfl (R.assign (hF.ev rfl)) fun a hF => ?_
        refine s0 ?_
        refine then_n (hK5 _ _ ?_)
        refine wp_ret (hR _ _ _ _ _ hF (run_results Try.results19 (.cw hF rfl agg31 hS (.t (.t (.t (.t .h)))) sz31 (rfl) (.t hF rfl (.nil)))) ?_)
        exact ⟨_, [], rfl, ⟨rfl, rfl⟩, hS.none⟩
    ·
      refine dl rfl (wn rfl) (O.buildSlice (l := [x, y].flatMap wc) rfl rfl hF Try.underlying32 inf31 rfl rfl (hF.evp rfl) (by decide) rfl hS fun b15 a w hF hS => ⟨fun hD => hS.sel [] rfl rfl, ?_⟩)
      have hD := hS.sel [] rfl rfl
      refine dq hF rfl (wn rfl) rfl rfl (fun w => R.buildStr (l := callc (twoF none 0 (pre4 l) (some ⟨b15, 0, none⟩) 2 x y)) Try.underlying34 ze34 pl34 (hF.evp rfl) (by kernel_rfl)) fun a hF => ?_
      refine d0 ?_
      refine ⟨?_, ?_⟩
      ·
        refine dl rfl (wn rfl) (O.appendO rfl rfl hF Try.underlying23 inf5 rfl rfl (by decide) (hF.ev rfl) (hF.ev rfl) hS (own_pre4 b10) (fun _ => (.t .h)) (hA.old hS) (by rw [length_byts, Nat.mul_one, hn]) (byts_one _) (by unfold maxLen; omega) (by omega) fun A12 c12 s12 a w hO12 hF hS => ⟨fun hD => hS.sel [] rfl rfl, ?_⟩)
        have hD := hS.sel [] rfl rfl
        rw [show 4 + n = (pre4 l).length by rw [pre4_len, hn]] at hF hO12; rw [byts_append] at hO12
        refine dq hF rfl (wn rfl) rfl rfl (fun w => R.buildStr (l := plays (twoF A12 c12 (pre4 l) (some ⟨b15, 0, none⟩) 2 x y)) Try.underlying37 ze37 pl37 (hF.evp rfl) (by kernel_rfl)) fun a hF => ?_
        refine d0 ?_
        refine ⟨?_, ?_⟩
        ·
          refine dl rfl (wn rfl) (O.call rfl rfl hF ent15 (hF.evs rfl) hS (playTwo A12 (some ⟨b15, 0, none⟩) c12 2 x y (pre4 l) w (two_in (hO12.rd hS (by first | exact .h | exact .t .h | exact .t (.t .h) | exact .t (.t (.t .h)) | exact .t (.t (.t (.t .h))) | exact .t (.t (.t (.t (.t .h)))) | exact .t (.t (.t (.t (.t (.t .h))))) | exact .t (.t (.t (.t (.t (.t (.t .h)))))) | exact .t (.t (.t (.t (.t (.t (.t (.t .h))))))))) (byt4 hB) hO12.2.1 hO12.cap (by rw [pre4_len]; omega) (Rd.own0 hS .h) hx hy (by decide) (by decide))) fun v s18 a w hR hF hS => ⟨fun hD => hS.sel [] rfl rfl, ?_⟩)
          obtain ⟨A18, c18, rfl, hO18⟩ := hR
          have hD := hS.sel [] rfl rfl
          refine dq hF rfl (wn rfl) rfl rfl (fun w => R.move (hF.ev rfl)) fun a hF => ?_
          refine dq hF rfl (wn rfl) rfl rfl (fun w => R.extract (hF.ev rfl) rfl) fun a hF => ?_
          refine dq hF rfl (wn rfl) rfl rfl (fun w => R.extract (hF.ev rfl) rfl) fun a hF => ?_
          refine dq hF rfl (wn rfl) rfl rfl (fun w => R.extract (hF.ev rfl) rfl) fun a hF => ?_
          refine dl rfl (wn rfl) (O.alloc rfl rfl hF ze39 rfl hS fun b6 a w hF hS => ⟨fun hD => hS.sel [] rfl rfl, ?_⟩)
          have hD := hS.sel [] rfl rfl
          refine dl rfl (wn rfl) (O.storeW sz39 (hF.ev rfl) (hF.ev rfl) (rfl) rfl (by simp [Value.oneCell']) hS .h (rfl) fun w hS => ⟨fun hD => hS.sel [] rfl rfl, ?_⟩)
          have hD := hS.sel [] rfl rfl
          refine dq hF rfl (wn rfl) rfl rfl (fun w => R.assign (hF.ev rfl)) fun a hF => ?_
          refine dq hF rfl (wn rfl) rfl rfl (fun w => R.assign (hF.ev rfl)) fun a hF => ?_
          refine d0 ?_
          refine then_n (hK2 _ _ ?_)
          refine wp_seq_k fun K6 hK6 => ?_
          refine wp_region_lit ?_
          refine sv' hF (wn rfl) rfl rfl (R.fieldAddr (k := 0) Try.underlying39 rfl nz31 (hF.ev rfl) rfl) fun a hF => ?_
          refine sv' hF (wn rfl) rfl rfl (R.loadA (cs := [_, _, _, _]) agg31 (hF.ev rfl) hS .h sz31 rfl (getAt rfl)) fun a hF => ?_
          refine sv' hF (wn rfl) rfl rfl (R.move (hF.ev rfl)) fun a hF => ?_
          refine so (wn rfl) (O.storeW sz31 (hF.ev rfl) (hF.ev rfl) (rfl) rfl (by simp [Value.oneCell']) hS (.t (.t (.t (.t .h)))) (rfl) fun w hS => ?_)
          refine sv' hF (wn rfl) rfl rfl (R.assign (hF.ev rfl)) fun a hF => ?_
          refine s0 ?_
          refine then_n (hK6 _ _ ?_)
          refine wp_ret (hR _ _ _ _ _ hF (run_results Try.results19 (.cw hF rfl agg31 hS (.t (.t (.t (.t .h)))) sz31 (rfl) (.t hF rfl (.nil)))) ?_)
          exact ⟨_, [], rfl, ⟨rfl, rfl⟩, hS.none⟩
        ·
          refine dl rfl (wn rfl) (O.alloc rfl rfl hF ze39 rfl hS fun b6 a w hF hS => ⟨fun hD => hS.sel [] rfl rfl, ?_⟩)
          have hD := hS.sel [] rfl rfl
          refine dl rfl (wn rfl) (O.call rfl rfl hF ent15 (hF.evs rfl) hS (playTwo A12 (some ⟨b15, 0, none⟩) c12 2 x y (pre4 l) w (two_in (hO12.rd hS (by first | exact .h | exact .t .h | exact .t (.t .h) | exact .t (.t (.t .h)) | exact .t (.t (.t (.t .h))) | exact .t (.t (.t (.t (.t .h)))) | exact .t (.t (.t (.t (.t (.t .h))))) | exact .t (.t (.t (.t (.t (.t (.t .h)))))) | exact .t (.t (.t (.t (.t (.t (.t (.t .h))))))))) (byt4 hB) hO12.2.1 hO12.cap (by rw [pre4_len]; omega) (Rd.own0 hS (.t .h)) hx hy (by decide) (by decide))) fun v s18 a w hR hF hS => ⟨fun hD => hS.sel [] rfl rfl, ?_⟩)
          obtain ⟨A18, c18, rfl, hO18⟩ := hR
          have hD := hS.sel [] rfl rfl
          refine dq hF rfl (wn rfl) rfl rfl (fun w => R.move (hF.ev rfl)) fun a hF => ?_
          refine dq hF rfl (wn rfl) rfl rfl (fun w => R.extract (hF.ev rfl) rfl) fun a hF => ?_
          refine dq hF rfl (wn rfl) rfl rfl (fun w => R.extract (hF.ev rfl) rfl) fun a hF => ?_
          refine dq hF rfl (wn rfl) rfl rfl (fun w => R.extract (hF.ev rfl) rfl) fun a hF => ?_
          refine dl rfl (wn rfl) (O.storeW sz39 (hF.ev rfl) (hF.ev rfl) (rfl) rfl (by simp [Value.oneCell']) hS (.t .h) (rfl) fun w hS => ⟨fun hD => hS.sel [] rfl rfl, ?_⟩)
          have hD := hS.sel [] rfl rfl
          refine dq hF rfl (wn rfl) rfl rfl (fun w => R.assign (hF.ev rfl)) fun a hF => ?_
          refine dq hF rfl (wn rfl) rfl rfl (fun w => R.assign (hF.ev rfl)) fun a hF => ?_
          refine d0 ?_
          refine then_n (hK2 _ _ ?_)
          refine wp_seq_k fun K7 hK7 => ?_
          refine wp_region_lit ?_
          refine sv' hF (wn rfl) rfl rfl (R.fieldAddr (k := 0) Try.underlying39 rfl nz31 (hF.ev rfl) rfl) fun a hF => ?_
          refine sv' hF (wn rfl) rfl rfl (R.loadA (cs := [_, _, _, _]) agg31 (hF.ev rfl) hS (.t .h) sz31 rfl (getAt rfl)) fun a hF => ?_
          refine sv' hF (wn rfl) rfl rfl (R.move (hF.ev rfl)) fun a hF => ?_
          refine so (wn rfl) (O.storeW sz31 (hF.ev rfl) (hF.ev rfl) (rfl) rfl (by simp [Value.oneCell']) hS (.t (.t (.t (.t .h)))) (rfl) fun w hS => ?_)
          refine sv' hF (wn rfl) rfl rfl (R.assign (hF.ev rfl)) fun a hF => ?_
          refine s0 ?_
          refine then_n (hK7 _ _ ?_)
          refine wp_ret (hR _ _ _ _ _ hF (run_results Try.results19 (.cw hF rfl agg31 hS (.t (.t (.t (.t .h)))) sz31 (rfl) (.t hF rfl (.nil)))) ?_)
          exact ⟨_, [], rfl, ⟨rfl, rfl⟩, hS.none⟩
      ·
        refine dl rfl (wn rfl) (O.alloc rfl rfl hF ze39 rfl hS fun b6 a w hF hS => ⟨fun hD => hS.sel [] rfl rfl, ?_⟩)
        have hD := hS.sel [] rfl rfl
        refine dl rfl (wn rfl) (O.appendO rfl rfl hF Try.underlying23 inf5 rfl rfl (by decide) (hF.ev rfl) (hF.ev rfl) hS (own_pre4 b10) (fun _ => (.t (.t .h))) (hA.old hS) (by rw [length_byts, Nat.mul_one, hn]) (byts_one _) (by unfold maxLen; omega) (by omega) fun A12 c12 s12 a w hO12 hF hS => ⟨fun hD => hS.sel [] rfl rfl, ?_⟩)
        have hD := hS.sel [] rfl rfl
        rw [show 4 + n = (pre4 l).length by rw [pre4_len, hn]] at hF hO12; rw [byts_append] at hO12
        refine dq hF rfl (wn rfl) rfl rfl (fun w => R.buildStr (l := plays (twoF A12 c12 (pre4 l) (some ⟨b15, 0, none⟩) 2 x y)) Try.underlying37 ze37 pl37 (hF.evp rfl) (by kernel_rfl)) fun a hF => ?_
        refine dl rfl (wn rfl) (O.call rfl rfl hF ent15 (hF.evs rfl) hS (playTwo A12 (some ⟨b15, 0, none⟩) c12 2 x y (pre4 l) w (two_in (hO12.rd hS (by first | exact .h | exact .t .h | exact .t (.t .h) | exact .t (.t (.t .h)) | exact .t (.t (.t (.t .h))) | exact .t (.t (.t (.t (.t .h)))) | exact .t (.t (.t (.t (.t (.t .h))))) | exact .t (.t (.t (.t (.t (.t (.t .h)))))) | exact .t (.t (.t (.t (.t (.t (.t (.t .h))))))))) (byt4 hB) hO12.2.1 hO12.cap (by rw [pre4_len]; omega) (Rd.own0 hS (.t .h)) hx hy (by decide) (by decide))) fun v s18 a w hR hF hS => ⟨fun hD => hS.sel [] rfl rfl, ?_⟩)
        obtain ⟨A18, c18, rfl, hO18⟩ := hR
        have hD := hS.sel [] rfl rfl
        refine dq hF rfl (wn rfl) rfl rfl (fun w => R.move (hF.ev rfl)) fun a hF => ?_
        refine dq hF rfl (wn rfl) rfl rfl (fun w => R.extract (hF.ev rfl) rfl) fun a hF => ?_
        refine dq hF rfl (wn rfl) rfl rfl (fun w => R.extract (hF.ev rfl) rfl) fun a hF => ?_
        refine dq hF rfl (wn rfl) rfl rfl (fun w => R.extract (hF.ev rfl) rfl) fun a hF => ?_
        refine dl rfl (wn rfl) (O.storeW sz39 (hF.ev rfl) (hF.ev rfl) (rfl) rfl (by simp [Value.oneCell']) hS (.t .h) (rfl) fun w hS => ⟨fun hD => hS.sel [] rfl rfl, ?_⟩)
        have hD := hS.sel [] rfl rfl
        refine dq hF rfl (wn rfl) rfl rfl (fun w => R.assign (hF.ev rfl)) fun a hF => ?_
        refine dq hF rfl (wn rfl) rfl rfl (fun w => R.assign (hF.ev rfl)) fun a hF => ?_
        refine d0 ?_
        refine then_n (hK2 _ _ ?_)
        refine wp_seq_k fun K8 hK8 => ?_
        refine wp_region_lit ?_
        refine sv' hF (wn rfl) rfl rfl (R.fieldAddr (k := 0) Try.underlying39 rfl nz31 (hF.ev rfl) rfl) fun a hF => ?_
        refine sv' hF (wn rfl) rfl rfl (R.loadA (cs := [_, _, _, _]) agg31 (hF.ev rfl) hS (.t .h) sz31 rfl (getAt rfl)) fun a hF => ?_
        refine sv' hF (wn rfl) rfl rfl (R.move (hF.ev rfl)) fun a hF => ?_
        refine so (wn rfl) (O.storeW sz31 (hF.ev rfl) (hF.ev rfl) (rfl) rfl (by simp [Value.oneCell']) hS (.t (.t (.t (.t .h)))) (rfl) fun w hS => ?_)
        refine sv' hF (wn rfl) rfl rfl (R.assign (hF.ev rfl)) fun a hF => ?_
        refine s0 ?_
        refine then_n (hK8 _ _ ?_)
        refine wp_ret (hR _ _ _ _ _ hF (run_results Try.results19 (.cw hF rfl agg31 hS (.t (.t (.t (.t .h)))) sz31 (rfl) (.t hF rfl (.nil)))) ?_)
        exact ⟨_, [], rfl, ⟨rfl, rfl⟩, hS.none⟩
    ·
      refine dl rfl (wn rfl) (O.alloc rfl rfl hF ze39 rfl hS fun b6 a w hF hS => ⟨fun hD => hS.sel [] rfl rfl, ?_⟩)
      have hD := hS.sel [] rfl rfl
      refine d0 ?_
      refine ⟨?_, ?_⟩
      ·
        refine dl rfl (wn rfl) (O.appendO rfl rfl hF Try.underlying23 inf5 rfl rfl (by decide) (hF.ev rfl) (hF.ev rfl) hS (own_pre4 b10) (fun _ => (.t .h)) (hA.old hS) (by rw [length_byts, Nat.mul_one, hn]) (byts_one _) (by unfold maxLen; omega) (by omega) fun A12 c12 s12 a w hO12 hF hS => ⟨fun hD => hS.sel [] rfl rfl, ?_⟩)
        have hD := hS.sel [] rfl rfl
        rw [show 4 + n = (pre4 l).length by rw [pre4_len, hn]] at hF hO12; rw [byts_append] at hO12
        refine dl rfl (wn rfl) (O.buildSlice (l := [x, y].flatMap wc) rfl rfl hF Try.underlying32 inf31 rfl rfl (hF.evp rfl) (by decide) rfl hS fun b15 a w hF hS => ⟨fun hD => hS.sel [] rfl rfl, ?_⟩)
        have hD := hS.sel [] rfl rfl
        refine dq hF rfl (wn rfl) rfl rfl (fun w => R.buildStr (l := callc (twoF none 0 (pre4 l) (some ⟨b15, 0, none⟩) 2 x y)) Try.underlying34 ze34 pl34 (hF.evp rfl) (by kernel_rfl)) fun a hF => ?_
        refine dq hF rfl (wn rfl) rfl rfl (fun w => R.buildStr (l := plays (twoF A12 c12 (pre4 l) (some ⟨b15, 0, none⟩) 2 x y)) Try.underlying37 ze37 pl37 (hF.evp rfl) (by kernel_rfl)) fun a hF => ?_
        refine dl rfl (wn rfl) (O.call rfl rfl hF ent15 (hF.evs rfl) hS (playTwo A12 (some ⟨b15, 0, none⟩) c12 2 x y (pre4 l) w (two_in (hO12.rd hS (by first | exact .h | exact .t .h | exact .t (.t .h) | exact .t (.t (.t .h)) | exact .t (.t (.t (.t .h))) | exact .t (.t (.t (.t (.t .h)))) | exact .t (.t (.t (.t (.t (.t .h))))) | exact .t (.t (.t (.t (.t (.t (.t .h)))))) | exact .t (.t (.t (.t (.t (.t (.t (.t .h))))))))) (byt4 hB) hO12.2.1 hO12.cap (by rw [pre4_len]; omega) (Rd.own0 hS .h) hx hy (by decide) (by decide))) fun v s18 a w hR hF hS => ⟨fun hD => hS.sel [] rfl rfl, ?_⟩)
        obtain ⟨A18, c18, rfl, hO18⟩ := hR
        have hD := hS.sel [] rfl rfl
        refine dq hF rfl (wn rfl) rfl rfl (fun w => R.move (hF.ev rfl)) fun a hF => ?_
        refine dq hF rfl (wn rfl) rfl rfl (fun w => R.extract (hF.ev rfl) rfl) fun a hF => ?_
        refine dq hF rfl (wn rfl) rfl rfl (fun w => R.extract (hF.ev rfl) rfl) fun a hF => ?_
        refine dq hF rfl (wn rfl) rfl rfl (fun w => R.extract (hF.ev rfl) rfl) fun a hF => ?_
        refine dl rfl (wn rfl) (O.storeW sz39 (hF.ev rfl) (hF.ev rfl) (rfl) rfl (by simp [Value.oneCell']) hS (.t (.t .h)) (rfl) fun w hS => ⟨fun hD => hS.sel [] rfl rfl, ?_⟩)
        have hD := hS.sel [] rfl rfl
        refine dq hF rfl (wn rfl) rfl rfl (fun w => R.assign (hF.ev rfl)) fun a hF => ?_
        refine dq hF rfl (wn rfl) rfl rfl (fun w => R.assign (hF.ev rfl)) fun a hF => ?_
        refine d0 ?_
        refine then_n (hK2 _ _ ?_)
        refine wp_seq_k fun K9 hK9 => ?_
        refine wp_region_lit ?_
        refine sv' hF (wn rfl) rfl rfl (R.fieldAddr (k := 0) Try.underlying39 rfl nz31 (hF.ev rfl) rfl) fun a hF => ?_
        refine sv' hF (wn rfl) rfl rfl (R.loadA (cs := [_, _, _, _]) agg31 (hF.ev rfl) hS (.t (.t .h)) sz31 rfl (getAt rfl)) fun a hF => ?_
        refine sv' hF (wn rfl) rfl rfl (R.move (hF.ev rfl)) fun a hF => ?_
        refine so (wn rfl) (O.storeW sz31 (hF.ev rfl) (hF.ev rfl) (rfl) rfl (by simp [Value.oneCell']) hS (.t (.t (.t (.t .h)))) (rfl) fun w hS => ?_)
        refine sv' hF (wn rfl) rfl rfl (R.assign (hF.ev rfl)) fun a hF => ?_
        refine s0 ?_
        refine then_n (hK9 _ _ ?_)
        refine wp_ret (hR _ _ _ _ _ hF (run_results Try.results19 (.cw hF rfl agg31 hS (.t (.t (.t (.t .h)))) sz31 (rfl) (.t hF rfl (.nil)))) ?_)
        exact ⟨_, [], rfl, ⟨rfl, rfl⟩, hS.none⟩
      ·
        refine dl rfl (wn rfl) (O.buildSlice (l := [x, y].flatMap wc) rfl rfl hF Try.underlying32 inf31 rfl rfl (hF.evp rfl) (by decide) rfl hS fun b15 a w hF hS => ⟨fun hD => hS.sel [] rfl rfl, ?_⟩)
        have hD := hS.sel [] rfl rfl
        refine dq hF rfl (wn rfl) rfl rfl (fun w => R.buildStr (l := callc (twoF none 0 (pre4 l) (some ⟨b15, 0, none⟩) 2 x y)) Try.underlying34 ze34 pl34 (hF.evp rfl) (by kernel_rfl)) fun a hF => ?_
        refine dl rfl (wn rfl) (O.appendO rfl rfl hF Try.underlying23 inf5 rfl rfl (by decide) (hF.ev rfl) (hF.ev rfl) hS (own_pre4 b10) (fun _ => (.t (.t .h))) (hA.old hS) (by rw [length_byts, Nat.mul_one, hn]) (byts_one _) (by unfold maxLen; omega) (by omega) fun A12 c12 s12 a w hO12 hF hS => ⟨fun hD => hS.sel [] rfl rfl, ?_⟩)
        have hD := hS.sel [] rfl rfl
        rw [show 4 + n = (pre4 l).length by rw [pre4_len, hn]] at hF hO12; rw [byts_append] at hO12
        refine dq hF rfl (wn rfl) rfl rfl (fun w => R.buildStr (l := plays (twoF A12 c12 (pre4 l) (some ⟨b15, 0, none⟩) 2 x y)) Try.underlying37 ze37 pl37 (hF.evp rfl) (by kernel_rfl)) fun a hF => ?_
        refine dl rfl (wn rfl) (O.call rfl rfl hF ent15 (hF.evs rfl) hS (playTwo A12 (some ⟨b15, 0, none⟩) c12 2 x y (pre4 l) w (two_in (hO12.rd hS (by first | exact .h | exact .t .h | exact .t (.t .h) | exact .t (.t (.t .h)) | exact .t (.t (.t (.t .h))) | exact .t (.t (.t (.t (.t .h)))) | exact .t (.t (.t (.t (.t (.t .h))))) | exact .t (.t (.t (.t (.t (.t (.t .h)))))) | exact .t (.t (.t (.t (.t (.t (.t (.t .h))))))))) (byt4 hB) hO12.2.1 hO12.cap (by rw [pre4_len]; omega) (Rd.own0 hS .h) hx hy (by decide) (by decide))) fun v s18 a w hR hF hS => ⟨fun hD => hS.sel [] rfl rfl, ?_⟩)
        obtain ⟨A18, c18, rfl, hO18⟩ := hR
        have hD := hS.sel [] rfl rfl
        refine dq hF rfl (wn rfl) rfl rfl (fun w => R.move (hF.ev rfl)) fun a hF => ?_
        refine dq hF rfl (wn rfl) rfl rfl (fun w => R.extract (hF.ev rfl) rfl) fun a hF => ?_
        refine dq hF rfl (wn rfl) rfl rfl (fun w => R.extract (hF.ev rfl) rfl) fun a hF => ?_
        refine dq hF rfl (wn rfl) rfl rfl (fun w => R.extract (hF.ev rfl) rfl) fun a hF => ?_
        refine dl rfl (wn rfl) (O.storeW sz39 (hF.ev rfl) (hF.ev rfl) (rfl) rfl (by simp [Value.oneCell']) hS (.t (.t .h)) (rfl) fun w hS => ⟨fun hD => hS.sel [] rfl rfl, ?_⟩)
        have hD := hS.sel [] rfl rfl
        refine dq hF rfl (wn rfl) rfl rfl (fun w => R.assign (hF.ev rfl)) fun a hF => ?_
        refine dq hF rfl (wn rfl) rfl rfl (fun w => R.assign (hF.ev rfl)) fun a hF => ?_
        refine d0 ?_
        refine then_n (hK2 _ _ ?_)
        refine wp_seq_k fun K10 hK10 => ?_
        refine wp_region_lit ?_
        refine sv' hF (wn rfl) rfl rfl (R.fieldAddr (k := 0) Try.underlying39 rfl nz31 (hF.ev rfl) rfl) fun a hF => ?_
        refine sv' hF (wn rfl) rfl rfl (R.loadA (cs := [_, _, _, _]) agg31 (hF.ev rfl) hS (.t (.t .h)) sz31 rfl (getAt rfl)) fun a hF => ?_
        refine sv' hF (wn rfl) rfl rfl (R.move (hF.ev rfl)) fun a hF => ?_
        refine so (wn rfl) (O.storeW sz31 (hF.ev rfl) (hF.ev rfl) (rfl) rfl (by simp [Value.oneCell']) hS (.t (.t (.t (.t .h)))) (rfl) fun w hS => ?_)
        refine sv' hF (wn rfl) rfl rfl (R.assign (hF.ev rfl)) fun a hF => ?_
        refine s0 ?_
        refine then_n (hK10 _ _ ?_)
        refine wp_ret (hR _ _ _ _ _ hF (run_results Try.results19 (.cw hF rfl agg31 hS (.t (.t (.t (.t .h)))) sz31 (rfl) (.t hF rfl (.nil)))) ?_)
        exact ⟨_, [], rfl, ⟨rfl, rfl⟩, hS.none⟩
  ·
    refine dl rfl (wn rfl) (O.buildSlice (l := [x, y].flatMap wc) rfl rfl hF Try.underlying32 inf31 rfl rfl (hF.evp rfl) (by decide) rfl hS fun b15 a w hF hS => ⟨fun hD => hS.sel [] rfl rfl, ?_⟩)
    have hD := hS.sel [] rfl rfl
    refine dq hF rfl (wn rfl) rfl rfl (fun w => R.buildStr (l := callc (twoF none 0 (pre4 l) (some ⟨b15, 0, none⟩) 2 x y)) Try.underlying34 ze34 pl34 (hF.evp rfl) (by kernel_rfl)) fun a hF => ?_
    refine d0 ?_
    refine ⟨?_, ?_⟩
    ·
      refine dl rfl (wn rfl) (O.buildSlice (l := [_, _, _, _]) rfl rfl hF Try.underlying23 inf5 rfl rfl (hF.evp rfl) (by decide) rfl hS fun b10 a w hF hS => ⟨fun hD => hS.sel [] rfl rfl, ?_⟩)
      have hD := hS.sel [] rfl rfl
      refine d0 ?_
      refine ⟨?_, ?_⟩
      ·
        refine dl rfl (wn rfl) (O.appendO rfl rfl hF Try.underlying23 inf5 rfl rfl (by decide) (hF.ev rfl) (hF.ev rfl) hS (own_pre4 b10) (fun _ => .h) (hA.old hS) (by rw [length_byts, Nat.mul_one, hn]) (byts_one _) (by unfold maxLen; omega) (by omega) fun A12 c12 s12 a w hO12 hF hS => ⟨fun hD => hS.sel [] rfl rfl, ?_⟩)
        have hD := hS.sel [] rfl rfl
        rw [show 4 + n = (pre4 l).length by rw [pre4_len, hn]] at hF hO12; rw [byts_append] at hO12
        refine dq hF rfl (wn rfl) rfl rfl (fun w => R.buildStr (l := plays (twoF A12 c12 (pre4 l) (some ⟨b15, 0, none⟩) 2 x y)) Try.underlying37 ze37 pl37 (hF.evp rfl) (by kernel_rfl)) fun a hF => ?_
        refine d0 ?_
        refine ⟨?_, ?_⟩
        ·
          refine dl rfl (wn rfl) (O.call rfl rfl hF ent15 (hF.evs rfl) hS (playTwo A12 (some ⟨b15, 0, none⟩) c12 2 x y (pre4 l) w (two_in (hO12.rd hS (by first | exact .h | exact .t .h | exact .t (.t .h) | exact .t (.t (.t .h)) | exact .t (.t (.t (.t .h))) | exact .t (.t (.t (.t (.t .h)))) | exact .t (.t (.t (.t (.t (.t .h))))) | exact .t (.t (.t (.t (.t (.t (.t .h)))))) | exact .t (.t (.t (.t (.t (.t (.t (.t .h))))))))) (byt4 hB) hO12.2.1 hO12.cap (by rw [pre4_len]; omega) (Rd.own0 hS (.t .h)) hx hy (by decide) (by decide))) fun v s18 a w hR hF hS => ⟨fun hD => hS.sel [] rfl rfl, ?_⟩)
          obtain ⟨A18, c18, rfl, hO18⟩ := hR
          have hD := hS.sel [] rfl rfl
          refine dq hF rfl (wn rfl) rfl rfl (fun w => R.move (hF.ev rfl)) fun a hF => ?_
          refine dq hF rfl (wn rfl) rfl rfl (fun w => R.extract (hF.ev rfl) rfl) fun a hF => ?_
          refine dq hF rfl (wn rfl) rfl rfl (fun w => R.extract (hF.ev rfl) rfl) fun a hF => ?_
          refine dq hF rfl (wn rfl) rfl rfl (fun w => R.extract (hF.ev rfl) rfl) fun a hF => ?_
          refine dl rfl (wn rfl) (O.alloc rfl rfl hF ze39 rfl hS fun b6 a w hF hS => ⟨fun hD => hS.sel [] rfl rfl, ?_⟩)
          have hD := hS.sel [] rfl rfl
          refine dl rfl (wn rfl) (O.storeW sz39 (hF.ev rfl) (hF.ev rfl) (rfl) rfl (by simp [Value.oneCell']) hS .h (rfl) fun w hS => ⟨fun hD => hS.sel [] rfl rfl, ?_⟩)
          have hD := hS.sel [] rfl rfl
          refine dq hF rfl (wn rfl) rfl rfl (fun w => R.assign (hF.ev rfl)) fun a hF => ?_
          refine dq hF rfl (wn rfl) rfl rfl (fun w => R.assign (hF.ev rfl)) fun a hF => ?_
          refine d0 ?_
          refine then_n (hK2 _ _ ?_)
          refine wp_seq_k fun K11 hK11 => ?_
          refine wp_region_lit ?_
          refine sv' hF (wn rfl) rfl rfl (R.fieldAddr (k := 0) Try.underlying39 rfl nz31 (hF.ev rfl) rfl) fun a hF => ?_
          refine sv' hF (wn rfl) rfl rfl (R.loadA (cs := [_, _, _, _]) agg31 (hF.ev rfl) hS .h sz31 rfl (getAt rfl)) fun a hF => ?_
          refine sv' hF (wn rfl) rfl rfl (R.move (hF.ev rfl)) fun a hF => ?_
          refine so (wn rfl) (O.storeW sz31 (hF.ev rfl) (hF.ev rfl) (rfl) rfl (by simp [Value.oneCell']) hS (.t (.t (.t (.t .h)))) (rfl) fun w hS => ?_)
          refine sv' hF (wn rfl) rfl rfl (R.assign (hF.ev rfl)) fun a hF => ?_
          refine s0 ?_
          refine then_n (hK11 _ _ ?_)
          refine wp_ret (hR _ _ _ _ _ hF (run_results Try.results19 (.cw hF rfl agg31 hS (.t (.t (.t (.t .h)))) sz31 (rfl) (.t hF rfl (.nil)))) ?_)
          exact ⟨_, [], rfl, ⟨rfl, rfl⟩, hS.none⟩
        ·
          refine dl rfl (wn rfl) (O.alloc rfl rfl hF ze39 rfl hS fun b6 a w hF hS => ⟨fun hD => hS.sel [] rfl rfl, ?_⟩)
          have hD := hS.sel [] rfl rfl
          refine dl rfl (wn rfl) (O.call rfl rfl hF ent15 (hF.evs rfl) hS (playTwo A12 (some ⟨b15, 0, none⟩) c12 2 x y (pre4 l) w (two_in (hO12.rd hS (by first | exact .h | exact .t .h | exact .t (.t .h) | exact .t (.t (.t .h)) | exact .t (.t (.t (.t .h))) | exact .t (.t (.t (.t (.t .h)))) | exact .t (.t (.t (.t (.t (.t .h))))) | exact .t (.t (.t (.t (.t (.t (.t .h)))))) | exact .t (.t (.t (.t (.t (.t (.t (.t .h))))))))) (byt4 hB) hO12.2.1 hO12.cap (by rw [pre4_len]; omega) (Rd.own0 hS (.t (.t .h))) hx hy (by decide) (by decide))) fun v s18 a w hR hF hS => ⟨fun hD => hS.sel [] rfl rfl, ?_⟩)
          obtain ⟨A18, c18, rfl, hO18⟩ := hR
          have hD := hS.sel [] rfl rfl
          refine dq hF rfl (wn rfl) rfl rfl (fun w => R.move (hF.ev rfl)) fun a hF => ?_
          refine dq hF rfl (wn rfl) rfl rfl (fun w => R.extract (hF.ev rfl) rfl) fun a hF => ?_
          refine dq hF rfl (wn rfl) rfl rfl (fun w => R.extract (hF.ev rfl) rfl) fun a hF => ?_
          refine dq hF rfl (wn rfl) rfl rfl (fun w => R.extract (hF.ev rfl) rfl) fun a hF => ?_
          refine dl rfl (wn rfl) (O.storeW sz39 (hF.ev rfl) (hF.ev rfl) (rfl) rfl (by simp [Value.oneCell']) hS (.t .h) (rfl) fun w hS => ⟨fun hD => hS.sel [] rfl rfl, ?_⟩)
          have hD := hS.sel [] rfl rfl
          refine dq hF rfl (wn rfl) rfl rfl (fun w => R.assign (hF.ev rfl)) fun a hF => ?_
          refine dq hF rfl (wn rfl) rfl rfl (fun w => R.assign (hF.ev rfl)) fun a hF => ?_
          refine d0 ?_
          refine then_n (hK2 _ _ ?_)
          refine wp_seq_k fun K12 hK12 => ?_
          refine wp_region_lit ?_
          refine sv' hF (wn rfl) rfl rfl (R.fieldAddr (k := 0) Try.underlying39 rfl nz31 (hF.ev rfl) rfl) fun a hF => ?_
          refine sv' hF (wn rfl) rfl rfl (R.loadA (cs := [_, _, _, _]) agg31 (hF.ev rfl) hS (.t .h) sz31 rfl (getAt rfl)) fun a hF => ?_
          refine sv' hF (wn rfl) rfl rfl (R.move (hF.ev rfl)) fun a hF => ?_
          refine so (wn rfl) (O.storeW sz31 (hF.ev rfl) (hF.ev rfl) (rfl) rfl (by simp [Value.oneCell']) hS (.t (.t (.t (.t .h)))) (rfl) fun w hS => ?_)
          refine sv' hF (wn rfl) rfl rfl (R.assign (hF.ev rfl)) fun a hF => ?_
          refine s0 ?_
          refine then_n (hK12 _ _ ?_)
          refine wp_ret (hR _ _ _ _ _ hF (run_results Try.results19 (.cw hF rfl agg31 hS (.t (.t (.t (.t .h)))) sz31 (rfl) (.t hF rfl (.nil)))) ?_)
          exact ⟨_, [], rfl, ⟨rfl, rfl⟩, hS.none⟩
      ·
        refine dl rfl (wn rfl) (O.alloc rfl rfl hF ze39 rfl hS fun b6 a w hF hS => ⟨fun hD => hS.sel [] rfl rfl, ?_⟩)
        have hD := hS.sel [] rfl rfl
        refine dl rfl (wn rfl) (O.appendO rfl rfl hF Try.underlying23 inf5 rfl rfl (by decide) (hF.ev rfl) (hF.ev rfl) hS (own_pre4 b10) (fun _ => (.t .h)) (hA.old hS) (by rw [length_byts, Nat.mul_one, hn]) (byts_one _) (by unfold maxLen; omega) (by omega) fun A12 c12 s12 a w hO12 hF hS => ⟨fun hD => hS.sel [] rfl rfl, ?_⟩)
        have hD := hS.sel [] rfl rfl
        rw [show 4 + n = (pre4 l).length by rw [pre4_len, hn]] at hF hO12; rw [byts_append] at hO12
        refine dq hF rfl (wn rfl) rfl rfl (fun w => R.buildStr (l := plays (twoF A12 c12 (pre4 l) (some ⟨b15, 0, none⟩) 2 x y)) Try.underlying37 ze37 pl37 (hF.evp rfl) (by kernel_rfl)) fun a hF => ?_
        refine dl rfl (wn rfl) (O.call rfl rfl hF ent15 (hF.evs rfl) hS (playTwo A12 (some ⟨b15, 0, none⟩) c12 2 x y (pre4 l) w (two_in (hO12.rd hS (by first | exact .h | exact .t .h | exact .t (.t .h) | exact .t (.t (.t .h)) | exact .t (.t (.t (.t .h))) | exact .t (.t (.t (.t (.t .h)))) | exact .t (.t (.t (.t (.t (.t .h))))) | exact .t (.t (.t (.t (.t (.t (.t .h)))))) | exact .t (.t (.t (.t (.t (.t (.t (.t .h))))))))) (byt4 hB) hO12.2.1 hO12.cap (by rw [pre4_len]; omega) (Rd.own0 hS (.t (.t .h))) hx hy (by decide) (by decide))) fun v s18 a w hR hF hS => ⟨fun hD => hS.sel [] rfl rfl, ?_⟩)
        obtain ⟨A18, c18, rfl, hO18⟩ := hR
        have hD := hS.sel [] rfl rfl
        refine dq hF rfl (wn rfl) rfl rfl (fun w => R.move (hF.ev rfl)) fun a hF => ?_
        refine dq hF rfl (wn rfl) rfl rfl (fun w => R.extract (hF.ev rfl) rfl) fun a hF => ?_
        refine dq hF rfl (wn rfl) rfl rfl (fun w => R.extract (hF.ev rfl) rfl) fun a hF => ?_
        refine dq hF rfl (wn rfl) rfl rfl (fun w => R.extract (hF.ev rfl) rfl) fun a hF => ?_
        refine dl rfl (wn rfl) (O.storeW sz39 (hF.ev rfl) (hF.ev rfl) (rfl) rfl (by simp [Value.oneCell']) hS (.t .h) (rfl) fun w hS => ⟨fun hD => hS.sel [] rfl rfl, ?_⟩)
        have hD := hS.sel [] rfl rfl
        refine dq hF rfl (wn rfl) rfl rfl (fun w => R.assign (hF.ev rfl)) fun a hF => ?_
        refine dq hF rfl (wn rfl) rfl rfl (fun w => R.assign (hF.ev rfl)) fun a hF => ?_
        refine d0 ?_
        refine then_n (hK2 _ _ ?_)
        refine wp_seq_k fun K13 hK13 => ?_
        refine wp_region_lit ?_
        refine sv' hF (wn rfl) rfl rfl (R.fieldAddr (k := 0) Try.underlying39 rfl nz31 (hF.ev rfl) rfl) fun a hF => ?_
        refine sv' hF (wn rfl) rfl rfl (R.loadA (cs := [_, _, _, _]) agg31 (hF.ev rfl) hS (.t .h) sz31 rfl (getAt rfl)) fun a hF => ?_
        refine sv' hF (wn rfl) rfl rfl (R.move (hF.ev rfl)) fun a hF => ?_
        refine so (wn rfl) (O.storeW sz31 (hF.ev rfl) (hF.ev rfl) (rfl) rfl (by simp [Value.oneCell']) hS (.t (.t (.t (.t .h)))) (rfl) fun w hS => ?_)
        refine sv' hF (wn rfl) rfl rfl (R.assign (hF.ev rfl)) fun a hF => ?_
        refine s0 ?_
        refine then_n (hK13 _ _ ?_)
        refine wp_ret (hR _ _ _ _ _ hF (run_results Try.results19 (.cw hF rfl agg31 hS (.t (.t (.t (.t .h)))) sz31 (rfl) (.t hF rfl (.nil)))) ?_)
        exact ⟨_, [], rfl, ⟨rfl, rfl⟩, hS.none⟩
    ·
      refine dl rfl (wn rfl) (O.alloc rfl rfl hF ze39 rfl hS fun b6 a w hF hS => ⟨fun hD => hS.sel [] rfl rfl, ?_⟩)
      have hD := hS.sel [] rfl rfl
      refine dl rfl (wn rfl) (O.buildSlice (l := [_, _, _, _]) rfl rfl hF Try.underlying23 inf5 rfl rfl (hF.evp rfl) (by decide) rfl hS fun b10 a w hF hS => ⟨fun hD => hS.sel [] rfl rfl, ?_⟩)
      have hD := hS.sel [] rfl rfl
      refine dl rfl (wn rfl) (O.appendO rfl rfl hF Try.underlying23 inf5 rfl rfl (by decide) (hF.ev rfl) (hF.ev rfl) hS (own_pre4 b10) (fun _ => .h) (hA.old hS) (by rw [length_byts, Nat.mul_one, hn]) (byts_one _) (by unfold maxLen; omega) (by omega) fun A12 c12 s12 a w hO12 hF hS => ⟨fun hD => hS.sel [] rfl rfl, ?_⟩)
      have hD := hS.sel [] rfl rfl
      rw [show 4 + n = (pre4 l).length by rw [pre4_len, hn]] at hF hO12; rw [byts_append] at hO12
      refine dq hF rfl (wn rfl) rfl rfl (fun w => R.buildStr (l := plays (twoF A12 c12 (pre4 l) (some ⟨b15, 0, none⟩) 2 x y)) Try.underlying37 ze37 pl37 (hF.evp rfl) (by kernel_rfl)) fun a hF => ?_
      refine dl rfl (wn rfl) (O.call rfl rfl hF ent15 (hF.evs rfl) hS (playTwo A12 (some ⟨b15, 0, none⟩) c12 2 x y (pre4 l) w (two_in (hO12.rd hS (by first | exact .h | exact .t .h | exact .t (.t .h) | exact .t (.t (.t .h)) | exact .t (.t (.t (.t .h))) | exact .t (.t (.t (.t (.t .h)))) | exact .t (.t (.t (.t (.t (.t .h))))) | exact .t (.t (.t (.t (.t (.t (.t .h)))))) | exact .t (.t (.t (.t (.t (.t (.t (.t .h))))))))) (byt4 hB) hO12.2.1 hO12.cap (by rw [pre4_len]; omega) (Rd.own0 hS (.t (.t .h))) hx hy (by decide) (by decide))) fun v s18 a w hR hF hS => ⟨fun hD => hS.sel [] rfl rfl, ?_⟩)
      obtain ⟨A18, c18, rfl, hO18⟩ := hR
      have hD := hS.sel [] rfl rfl
      refine dq hF rfl (wn rfl) rfl rfl (fun w => R.move (hF.ev rfl)) fun a hF => ?_
      refine dq hF rfl (wn rfl) rfl rfl (fun w => R.extract (hF.ev rfl) rfl) fun a hF => ?_
      refine dq hF rfl (wn rfl) rfl rfl (fun w => R.extract (hF.ev rfl) rfl) fun a hF => ?_
      refine dq hF rfl (wn rfl) rfl rfl (fun w => R.extract (hF.ev rfl) rfl) fun a hF => ?_
      refine dl rfl (wn rfl) (O.storeW sz39 (hF.ev rfl) (hF.ev rfl) (rfl) rfl (by simp [Value.oneCell']) hS (.t (.t .h)) (rfl) fun w hS => ⟨fun hD => hS.sel [] rfl rfl, ?_⟩)
      have hD := hS.sel [] rfl rfl
      refine dq hF rfl (wn rfl) rfl rfl (fun w => R.assign (hF.ev rfl)) fun a hF => ?_
      refine dq hF rfl (wn rfl) rfl rfl (fun w => R.assign (hF.ev rfl)) fun a hF => ?_
      refine d0 ?_
      refine then_n (hK2 _ _ ?_)
      refine wp_seq_k fun K14 hK14 => ?_
      refine wp_region_lit ?_
      refine sv' hF (wn rfl) rfl rfl (R.fieldAddr (k := 0) Try.underlying39 rfl nz31 (hF.ev rfl) rfl) fun a hF => ?_
      refine sv' hF (wn rfl) rfl rfl (R.loadA (cs := [_, _, _, _]) agg31 (hF.ev rfl) hS (.t (.t .h)) sz31 rfl (getAt rfl)) fun a hF => ?_
      refine sv' hF (wn rfl) rfl rfl (R.move (hF.ev rfl)) fun a hF => ?_
      refine so (wn rfl) (O.storeW sz31 (hF.ev rfl) (hF.ev rfl) (rfl) rfl (by simp [Value.oneCell']) hS (.t (.t (.t (.t .h)))) (rfl) fun w hS => ?_)
      refine sv' hF (wn rfl) rfl rfl (R.assign (hF.ev rfl)) fun a hF => ?_
      refine s0 ?_
      refine then_n (hK14 _ _ ?_)
      refine wp_ret (hR _ _ _ _ _ hF (run_results Try.results19 (.cw hF rfl agg31 hS (.t (.t (.t (.t .h)))) sz31 (rfl) (.t hF rfl (.nil)))) ?_)
      exact ⟨_, [], rfl, ⟨rfl, rfl⟩, hS.none⟩
  ·
    refine dl rfl (wn rfl) (O.alloc rfl rfl hF ze39 rfl hS fun b6 a w hF hS => ⟨fun hD => hS.sel [] rfl rfl, ?_⟩)
    have hD := hS.sel [] rfl rfl
    refine d0 ?_
    refine ⟨?_, ?_⟩
    ·
      refine dl rfl (wn rfl) (O.buildSlice (l := [_, _, _, _]) rfl rfl hF Try.underlying23 inf5 rfl rfl (hF.evp rfl) (by decide) rfl hS fun b10 a w hF hS => ⟨fun hD => hS.sel [] rfl rfl, ?_⟩)
      have hD := hS.sel [] rfl rfl
      refine d0 ?_
      refine ⟨?_, ?_⟩
      ·
        refine dl rfl (wn rfl) (O.appendO rfl rfl hF Try.underlying23 inf5 rfl rfl (by decide) (hF.ev rfl) (hF.ev rfl) hS (own_pre4 b10) (fun _ => .h) (hA.old hS) (by rw [length_byts, Nat.mul_one, hn]) (byts_one _) (by unfold maxLen; omega) (by omega) fun A12 c12 s12 a w hO12 hF hS => ⟨fun hD => hS.sel [] rfl rfl, ?_⟩)
        have hD := hS.sel [] rfl rfl
        rw [show 4 + n = (pre4 l).length by rw [pre4_len, hn]] at hF hO12; rw [byts_append] at hO12
        refine dl rfl (wn rfl) (O.buildSlice (l := [x, y].flatMap wc) rfl rfl hF Try.underlying32 inf31 rfl rfl (hF.evp rfl) (by decide) rfl hS fun b15 a w hF hS => ⟨fun hD => hS.sel [] rfl rfl, ?_⟩)
        have hD := hS.sel [] rfl rfl
        refine dq hF rfl (wn rfl) rfl rfl (fun w => R.buildStr (l := callc (twoF none 0 (pre4 l) (some ⟨b15, 0, none⟩) 2 x y)) Try.underlying34 ze34 pl34 (hF.evp rfl) (by kernel_rfl)) fun a hF => ?_
        refine dq hF rfl (wn rfl) rfl rfl (fun w => R.buildStr (l := plays (twoF A12 c12 (pre4 l) (some ⟨b15, 0, none⟩) 2 x y)) Try.underlying37 ze37 pl37 (hF.evp rfl) (by kernel_rfl)) fun a hF => ?_
        refine dl rfl (wn rfl) (O.call rfl rfl hF ent15 (hF.evs rfl) hS (playTwo A12 (some ⟨b15, 0, none⟩) c12 2 x y (pre4 l) w (two_in (hO12.rd hS (by first | exact .h | exact .t .h | exact .t (.t .h) | exact .t (.t (.t .h)) | exact .t (.t (.t (.t .h))) | exact .t (.t (.t (.t (.t .h)))) | exact .t (.t (.t (.t (.t (.t .h))))) | exact .t (.t (.t (.t (.t (.t (.t .h)))))) | exact .t (.t (.t (.t (.t (.t (.t (.t .h))))))))) (byt4 hB) hO12.2.1 hO12.cap (by rw [pre4_len]; omega) (Rd.own0 hS .h) hx hy (by decide) (by decide))) fun v s18 a w hR hF hS => ⟨fun hD => hS.sel [] rfl rfl, ?_⟩)
        obtain ⟨A18, c18, rfl, hO18⟩ := hR
        have hD := hS.sel [] rfl rfl
        refine dq hF rfl (wn rfl) rfl rfl (fun w => R.move (hF.ev rfl)) fun a hF => ?_
        refine dq hF rfl (wn rfl) rfl rfl (fun w => R.extract (hF.ev rfl) rfl) fun a hF => ?_
        refine dq hF rfl (wn rfl) rfl rfl (fun w => R.extract (hF.ev rfl) rfl) fun a hF => ?_
        refine dq hF rfl (wn rfl) rfl rfl (fun w => R.extract (hF.ev rfl) rfl) fun a hF => ?_
        refine dl rfl (wn rfl) (O.storeW sz39 (hF.ev rfl) (hF.ev rfl) (rfl) rfl (by simp [Value.oneCell']) hS (.t (.t (.t .h))) (rfl) fun w hS => ⟨fun hD => hS.sel [] rfl rfl, ?_⟩)
        have hD := hS.sel [] rfl rfl
        refine dq hF rfl (wn rfl) rfl rfl (fun w => R.assign (hF.ev rfl)) fun a hF => ?_
        refine dq hF rfl (wn rfl) rfl rfl (fun w => R.assign (hF.ev rfl)) fun a hF => ?_
        refine d0 ?_
        refine then_n (hK2 _ _ ?_)
        refine wp_seq_k fun K15 hK15 => ?_
        refine wp_region_lit ?_
        refine sv' hF (wn rfl) rfl rfl (R.fieldAddr (k := 0) Try.underlying39 rfl nz31 (hF.ev rfl) rfl) fun a hF => ?_
        refine sv' hF (wn rfl) rfl rfl (R.loadA (cs := [_, _, _, _]) agg31 (hF.ev rfl) hS (.t (.t (.t .h))) sz31 rfl (getAt rfl)) fun a hF => ?_
        refine sv' hF (wn rfl) rfl rfl (R.move (hF.ev rfl)) fun a hF => ?_
        refine so (wn rfl) (O.storeW sz31 (hF.ev rfl) (hF.ev rfl) (rfl) rfl (by simp [Value.oneCell']) hS (.t (.t (.t (.t .h)))) (rfl) fun w hS => ?_)
        refine sv' hF (wn rfl) rfl rfl (R.assign (hF.ev rfl)) fun a hF => ?_
        refine s0 ?_
        refine then_n (hK15 _ _ ?_)
        refine wp_ret (hR _ _ _ _ _ hF (run_results Try.results19 (.cw hF rfl agg31 hS (.t (.t (.t (.t .h)))) sz31 (rfl) (.t hF rfl (.nil)))) ?_)
        exact ⟨_, [], rfl, ⟨rfl, rfl⟩, hS.none⟩
      ·
        refine dl rfl (wn rfl) (O.buildSlice (l := [x, y].flatMap wc) rfl rfl hF Try.underlying32 inf31 rfl rfl (hF.evp rfl) (by decide) rfl hS fun b15 a w hF hS => ⟨fun hD => hS.sel [] rfl rfl, ?_⟩)
        have hD := hS.sel [] rfl rfl
        refine dq hF rfl (wn rfl) rfl rfl (fun w => R.buildStr (l := callc (twoF none 0 (pre4 l) (some ⟨b15, 0, none⟩) 2 x y)) Try.underlying34 ze34 pl34 (hF.evp rfl) (by kernel_rfl)) fun a hF => ?_
        refine dl rfl (wn rfl) (O.appendO rfl rfl hF Try.underlying23 inf5 rfl rfl (by decide) (hF.ev rfl) (hF.ev rfl) hS (own_pre4 b10) (fun _ => (.t .h)) (hA.old hS) (by rw [length_byts, Nat.mul_one, hn]) (byts_one _) (by unfold maxLen; omega) (by omega) fun A12 c12 s12 a w hO12 hF hS => ⟨fun hD => hS.sel [] rfl rfl, ?_⟩)
        have hD := hS.sel [] rfl rfl
        rw [show 4 + n = (pre4 l).length by rw [pre4_len, hn]] at hF hO12; rw [byts_append] at hO12
        refine dq hF rfl (wn rfl) rfl rfl (fun w => R.buildStr (l := plays (twoF A12 c12 (pre4 l) (some ⟨b15, 0, none⟩) 2 x y)) Try.underlying37 ze37 pl37 (hF.evp rfl) (by kernel_rfl)) fun a hF => ?_
        refine dl rfl (wn rfl) (O.call rfl rfl hF ent15 (hF.evs rfl) hS (playTwo A12 (some ⟨b15, 0, none⟩) c12 2 x y (pre4 l) w (two_in (hO12.rd hS (by first | exact .h | exact .t .h | exact .t (.t .h) | exact .t (.t (.t .h)) | exact .t (.t (.t (.t .h))) | exact .t (.t (.t (.t (.t .h)))) | exact .t (.t (.t (.t (.t (.t .h))))) | exact .t (.t (.t (.t (.t (.t (.t .h)))))) | exact .t (.t (.t (.t (.t (.t (.t (.t .h))))))))) (byt4 hB) hO12.2.1 hO12.cap (by rw [pre4_len]; omega) (Rd.own0 hS .h) hx hy (by decide) (by decide))) fun v s18 a w hR hF hS => ⟨fun hD => hS.sel [] rfl rfl, ?_⟩)
        obtain ⟨A18, c18, rfl, hO18⟩ := hR
        have hD := hS.sel [] rfl rfl
        refine dq hF rfl (wn rfl) rfl rfl (fun w => R.move (hF.ev rfl)) fun a hF => ?_
        refine dq hF rfl (wn rfl) rfl rfl (fun w => R.extract (hF.ev rfl) rfl) fun a hF => ?_
        refine dq hF rfl (wn rfl) rfl rfl (fun w => R.extract (hF.ev rfl) rfl) fun a hF => ?_
        refine dq hF rfl (wn rfl) rfl rfl (fun w => R.extract (hF.ev rfl) rfl) fun a hF => ?_
        refine dl rfl (wn rfl) (O.storeW sz39 (hF.ev rfl) (hF.ev rfl) (rfl) rfl (by simp [Value.oneCell']) hS (.t (.t (.t .h))) (rfl) fun w hS => ⟨fun hD => hS.sel [] rfl rfl, ?_⟩)
        have hD := hS.sel [] rfl rfl
        refine dq hF rfl (wn rfl) rfl rfl (fun w => R.assign (hF.ev rfl)) fun a hF => ?_
        refine dq hF rfl (wn rfl) rfl rfl (fun w => R.assign (hF.ev rfl)) fun a hF => ?_
        refine d0 ?_
        refine then_n (hK2 _ _ ?_)
        refine wp_seq_k fun K16 hK16 => ?_
        refine wp_region_lit ?_
        refine sv' hF (wn rfl) rfl rfl (R.fieldAddr (k := 0) Try.underlying39 rfl nz31 (hF.ev rfl) rfl) fun a hF => ?_
        refine sv' hF (wn rfl) rfl rfl (R.loadA (cs := [_, _, _, _]) agg31 (hF.ev rfl) hS (.t (.t (.t .h))) sz31 rfl (getAt rfl)) fun a hF => ?_
        refine sv' hF (wn rfl) rfl rfl (R.move (hF.ev rfl)) fun a hF => ?_
        refine so (wn rfl) (O.storeW sz31 (hF.ev rfl) (hF.ev rfl) (rfl) rfl (by simp [Value.oneCell']) hS (.t (.t (.t (.t .h)))) (rfl) fun w hS => ?_)
        refine sv' hF (wn rfl) rfl rfl (R.assign (hF.ev rfl)) fun a hF => ?_
        refine s0 ?_
        refine then_n (hK16 _ _ ?_)
        refine wp_ret (hR _ _ _ _ _ hF (run_results Try.results19 (.cw hF rfl agg31 hS (.t (.t (.t (.t .h)))) sz31 (rfl) (.t hF rfl (.nil)))) ?_)
        exact ⟨_, [], rfl, ⟨rfl, rfl⟩, hS.none⟩
    ·
      refine dl rfl (wn rfl) (O.buildSlice (l := [x, y].flatMap wc) rfl rfl hF Try.underlying32 inf31 rfl rfl (hF.evp rfl) (by decide) rfl hS fun b15 a w hF hS => ⟨fun hD => hS.sel [] rfl rfl, ?_⟩)
      have hD := hS.sel [] rfl rfl
      refine dq hF rfl (wn rfl) rfl rfl (fun w => R.buildStr (l := callc (twoF none 0 (pre4 l) (some ⟨b15, 0, none⟩) 2 x y)) Try.underlying34 ze34 pl34 (hF.evp rfl) (by kernel_rfl)) fun a hF => ?_
      refine dl rfl (wn rfl) (O.buildSlice (l := [_, _, _, _]) rfl rfl hF Try.underlying23 inf5 rfl rfl (hF.evp rfl) (by decide) rfl hS fun b10 a w hF hS => ⟨fun hD => hS.sel [] rfl rfl, ?_⟩)
      have hD := hS.sel [] rfl rfl
      refine dl rfl (wn rfl) (O.appendO rfl rfl hF Try.underlying23 inf5 rfl rfl (by decide) (hF.ev rfl) (hF.ev rfl) hS (own_pre4 b10) (fun _ => .h) (hA.old hS) (by rw [length_byts, Nat.mul_one, hn]) (byts_one _) (by unfold maxLen; omega) (by omega) fun A12 c12 s12 a w hO12 hF hS => ⟨fun hD => hS.sel [] rfl rfl, ?_⟩)
      have hD := hS.sel [] rfl rfl
      rw [show 4 + n = (pre4 l).length by rw [pre4_len, hn]] at hF hO12; rw [byts_append] at hO12
      refine dq hF rfl (wn rfl) rfl rfl (fun w => R.buildStr (l := plays (twoF A12 c12 (pre4 l) (some ⟨b15, 0, none⟩) 2 x y)) Try.underlying37 ze37 pl37 (hF.evp rfl) (by kernel_rfl)) fun a hF => ?_
      refine dl rfl (wn rfl) (O.call rfl rfl hF ent15 (hF.evs rfl) hS (playTwo A12 (some ⟨b15, 0, none⟩) c12 2 x y (pre4 l) w (two_in (hO12.rd hS (by first | exact .h | exact .t .h | exact .t (.t .h) | exact .t (.t (.t .h)) | exact .t (.t (.t (.t .h))) | exact .t (.t (.t (.t (.t .h)))) | exact .t (.t (.t (.t (.t (.t .h))))) | exact .t (.t (.t (.t (.t (.t (.t .h)))))) | exact .t (.t (.t (.t (.t (.t (.t (.t .h))))))))) (byt4 hB) hO12.2.1 hO12.cap (by rw [pre4_len]; omega) (Rd.own0 hS (.t .h)) hx hy (by decide) (by decide))) fun v s18 a w hR hF hS => ⟨fun hD => hS.sel [] rfl rfl, ?_⟩)
      obtain ⟨A18, c18, rfl, hO18⟩ := hR
      have hD := hS.sel [] rfl rfl
      refine dq hF rfl (wn rfl) rfl rfl (fun w => R.move (hF.ev rfl)) fun a hF => ?_
      refine dq hF rfl (wn rfl) rfl rfl (fun w => R.extract (hF.ev rfl) rfl) fun a hF => ?_
      refine dq hF rfl (wn rfl) rfl rfl (fun w => R.extract (hF.ev rfl) rfl) fun a hF => ?_
      refine dq hF rfl (wn rfl) rfl rfl (fun w => R.extract (hF.ev rfl) rfl) fun a hF => ?_
      refine dl rfl (wn rfl) (O.storeW sz39 (hF.ev rfl) (hF.ev rfl) (rfl) rfl (by simp [Value.oneCell']) hS (.t (.t (.t .h))) (rfl) fun w hS => ⟨fun hD => hS.sel [] rfl rfl, ?_⟩)
      have hD := hS.sel [] rfl rfl
      refine dq hF rfl (wn rfl) rfl rfl (fun w => R.assign (hF.ev rfl)) fun a hF => ?_
      refine dq hF rfl (wn rfl) rfl rfl (fun w => R.assign (hF.ev rfl)) fun a hF => ?_
      refine d0 ?_
      refine then_n (hK2 _ _ ?_)
      refine wp_seq_k fun K17 hK17 => ?_
      refine wp_region_lit ?_
      refine sv' hF (wn rfl) rfl rfl (R.fieldAddr (k := 0) Try.underlying39 rfl nz31 (hF.ev rfl) rfl) fun a hF => ?_
      refine sv' hF (wn rfl) rfl rfl (R.loadA (cs := [_, _, _, _]) agg31 (hF.ev rfl) hS (.t (.t (.t .h))) sz31 rfl (getAt rfl)) fun a hF => ?_
      refine sv' hF (wn rfl) rfl rfl (R.move (hF.ev rfl)) fun a hF => ?_
      refine so (wn rfl) (O.storeW sz31 (hF.ev rfl) (hF.ev rfl) (rfl) rfl (by simp [Value.oneCell']) hS (.t (.t (.t (.t .h)))) (rfl) fun w hS => ?_)
      refine sv' hF (wn rfl) rfl rfl (R.assign (hF.ev rfl)) fun a hF => ?_
      refine s0 ?_
      refine then_n (hK17 _ _ ?_)
      refine wp_ret (hR _ _ _ _ _ hF (run_results Try.results19 (.cw hF rfl agg31 hS (.t (.t (.t (.t .h)))) sz31 (rfl) (.t hF rfl (.nil)))) ?_)
      exact ⟨_, [], rfl, ⟨rfl, rfl⟩, hS.none⟩

end Go.Proofs.Ytlapmbkfmbkdoaa
