/- The calls of EscrowOnce. -/
import Derived.Test.YthgecfjpacebeaaAg
namespace Go.Proofs.Ythgecfjpacebeaa
open Go Go.Fw Go.RowKit
attribute [local irreducible] Go.Oper.wp Go.Code.wp Go.wpList Go.Fw.WL Go.Calls
theorem own_one24 (b : Nat) (v : Value) : OwnS [(b, Cel [v] 24)] (some ⟨b, 0, none⟩) 1 1 [v] 24 1 := OwnS.mk (cells := [v]) (rest := []) rfl (by decide) rfl (by decide)
theorem own_one64 (b : Nat) : OwnS [(b, Cel [.slice none 0 0] 64)] (some ⟨b, 0, none⟩) 1 1 (pdv [⟨none, 0, [], []⟩]) 64 1 := OwnS.mk (cells := [.slice none 0 0]) (rest := []) rfl (by decide) rfl (by decide)
theorem own_nil3 (b : Nat) : OwnS [(b, Cel [] 3)] (some ⟨b, 0, none⟩) 0 0 (ixs []) 3 1 := OwnS.mk (cells := []) (rest := []) rfl (by decide) rfl (by decide)
theorem pptr_snoc (ps : List Pv) (q : Pv) : pptr (ps ++ [q]) = pptr ps ++ [.pointer (some ⟨q.bv, 0, none⟩)] := by simp [pptr]
theorem pdv_snoc (ds : List Pd) (d : Pd) : pdv (ds ++ [d]) = pdv ds ++ [.slice d.A d.l.length d.c] := by simp [pdv, Pd.val]
theorem pdv_left {ds : List Pd} {rest : List Value} {k off : Nat} {d : Pd} (h : ds[k]? = some d) (ho : off = k) : (pdv ds ++ rest)[off]? = some (.slice d.A d.l.length d.c) := by
  have hk := (List.getElem?_eq_some_iff.1 h).1
  rw [List.getElem?_append_left (by rw [length_pdv]; omega)]; exact pdv_at h ho
theorem ixs_snoc (l : List Int) (x : Int) : ixs l ++ [.int .i64 x] = ixs (l ++ [x]) := by simp [ixs]
theorem mem_succ {l : List Int} {x : Int} {j : Nat} (h : x ∈ l.take j) : x ∈ l.take (j + 1) := (List.take_subset_take_left l (Nat.le_succ j)) h
theorem mem_succ2 {l : List Int} {x : Int} {j : Nat} (hj : j < l.length) (h : ¬ x ∈ l.take j) : (l.getD j 0 = x) ↔ x ∈ l.take (j + 1) := by
  rw [List.take_succ_eq_append_getElem hj, List.mem_append, List.mem_singleton, List.getD_eq_getElem?_getD, List.getElem?_eq_getElem hj]
  exact ⟨fun e => .inr e.symm, fun e => (e.resolve_left h).symm⟩
theorem getD_mem {l : List Int} {j : Nat} (hj : j < l.length) : l.getD j 0 ∈ l := by rw [List.getD_eq_getElem?_getD, List.getElem?_eq_getElem hj]; exact List.getElem_mem hj
theorem once_snoc {ps : List Pv} {ds : List Pd} {k : Nat} {p : Pv} {d : Pd} {x : Int} (h : Once ps ds) (hp : ps[k]? = some p) (hd : ds[k]? = some d) (hx : p.V.paid x = true) : ∀ y ∈ d.l ++ [x], p.V.paid y = true := by
  intro y hy
  rcases List.mem_append.1 hy with h1 | h1
  · exact h k p d hp hd y h1
  · rw [List.mem_singleton.1 h1]; exact hx

theorem escrowOnce_calls (A : Option Addr) (cap : Nat) (sts : List Stp) (w0 : World) (hA : Rd w0 A (sts.flatMap stpL)) (hok : ∀ p ∈ sts, p.ok) (hc : sts.length ≤ cap) (hcap : cap * 64 ≤ 140737488351232) : Ret Try.prog 7 [.slice A sts.length cap] w0 [] (fun v s => v = .bool true ∧ s = []) := by
  refine fn_start Try.func7 rfl Try.ntmps7 rfl [(0, .slice A sts.length cap)] ⟨rfl, trivial⟩ ?_
  intro Q a hP hF hR hN
  have hS := St.start w0
  refine wp_seq_k fun K1 hK1 => ?_
  refine wp_region_lit ?_
  refine sv' hF (wn rfl) rfl rfl (R.assign (hF.ev rfl)) fun a hF => ?_
  refine s0 ?_
  refine then_n (hK1 _ _ ?_)
  refine wp_seq_k fun K2 hK2 => ?_
  refine wp_region_lit ?_
  refine so (wn rfl) (O.call rfl rfl hF ent18 (hF.evs rfl) hS (known_calls _) fun v s17 a w hR hF hS => ?_)
  obtain ⟨rfl, rfl⟩ := hR
  refine sv' hF (wn rfl) rfl rfl (R.assign (hF.ev rfl)) fun a hF => ?_
  refine s0 ?_
  refine then_n (hK2 _ _ ?_)
  refine wp_seq_k fun K3 hK3 => ?_
  refine wp_region_lit ?_
  refine so (wn rfl) (O.call rfl rfl hF ent19 (hF.evs rfl) hS (new_calls _) fun v s18 a w hR hF hS => ?_)
  obtain ⟨bv, rfl, hV⟩ := hR
  refine sv' hF (wn rfl) rfl rfl (R.assign (hF.ev rfl)) fun a hF => ?_
  refine s0 ?_
  refine then_n (hK3 _ _ ?_)
  refine wp_seq_k fun K4 hK4 => ?_
  refine wp_seq_k fun K5 hK5 => ?_
  refine wp_region_lit ?_
  refine sv' hF (wn rfl) rfl rfl (R.move (hF.ev rfl)) fun a hF => ?_
  refine sv' hF (wn rfl) rfl rfl ((by first | exact R.notD (hF.ev rfl) | exact R.not (hF.ev rfl))) fun a hF => ?_
  refine sv' hF (wn rfl) rfl rfl (R.move (hF.ev rfl)) fun a hF => ?_
  refine hF.splitB (t := 21) rfl (fun h21 hF => ?_) (fun h21 hF => ?_)
  ·
    exact absurd h21 (by decide)
  ·
    refine sv' hF (wy hF rfl rfl rfl) rfl rfl (R.move (hF.ev rfl)) fun a hF => ?_
    refine sv' hF (wy hF rfl rfl rfl) rfl rfl (R.nilP (hF.ev rfl) (hF.ev rfl) Try.underlying24) fun a hF => ?_
    refine sv' hF (wn rfl) rfl rfl (R.pickF (hF.ev rfl) (hF.ev rfl)) fun a hF => ?_
    refine s0 ?_
    refine then_n (hK5 _ _ ?_)
    refine cS hF rfl (fun c1 => ?_) (fun c1 => ?_)
    ·
      exact absurd c1 (by decide)
    ·
      refine wp_skip ?_
      refine then_n (hK4 _ _ ?_)
      refine wp_seq_k fun K6 hK6 => ?_
      refine wp_region_lit ?_
      refine sv' hF (wn rfl) rfl rfl (R.move (hF.ev rfl)) fun a hF => ?_
      refine so (wn rfl) (O.buildSlice (l := [_]) rfl rfl hF Try.underlying57 inf24 rfl rfl (hF.evp rfl) (by decide) rfl hS fun b26 a w hF hS => ?_)
      refine sv' hF (wn rfl) rfl rfl (R.assign (hF.ev rfl)) fun a hF => ?_
      refine s0 ?_
      refine then_n (hK6 _ _ ?_)
      refine wp_seq_k fun K7 hK7 => ?_
      refine wp_region_lit ?_
      refine so (wn rfl) (O.buildSlice (l := [_]) rfl rfl hF Try.underlying63 inf64 rfl rfl (hF.evp rfl) (by decide) rfl hS fun b27 a w hF hS => ?_)
      refine sv' hF (wn rfl) rfl rfl (R.assign (hF.ev rfl)) fun a hF => ?_
      refine s0 ?_
      refine then_n (hK7 _ _ ?_)
      refine wp_seq_k fun K8 hK8 => ?_
      refine wp_seq_k fun K9 hK9 => ?_
      have hS := hS.sel [2, 0, 1, 3] rfl rfl
      have hS := hS.first (f := Pv.sg) ⟨bv, Vau.new, s18⟩ rfl
      have hS := hS.cons0
      have hS := hS.first (f := Pd.sg) ⟨none, 0, [], []⟩ rfl
      refine wp_region_lit ?_
      refine sv' hF (wn rfl) rfl rfl (R.assign (hF.ev rfl)) fun a hF => ?_
      refine s0 ?_
      refine then_n (hK9 _ _ ?_)
      refine wp_block ?_
      refine wp_loop_N (fun g a w => ∃ (i : Nat) (ps : List Pv) (ds : List Pd) (A5 : Option Addr) (e5 : Nat) (s5 : Seg) (A6 : Option Addr) (e6 : Nat) (s6 : Seg), sts.length - i = g ∧ Fr 163 [(0, .slice A sts.length cap), (5, .slice A5 ps.length e5), (6, .slice A6 ds.length e6), (7, .int .i64 ((i : Nat) : Int))] a ∧ St w0 [] [flS Pv.sg ps, flS Pd.sg ds, s5, s6] w ∧ (i ≤ sts.length) ∧ (PoolOk ps) ∧ (PdOk ds) ∧ (OwnS s5 A5 ps.length e5 (pptr ps) 24 1) ∧ (OwnS s6 A6 ds.length e6 (pdv ds) 64 1) ∧ (ps.length = ds.length) ∧ (0 < ps.length ∧ ps.length ≤ 6) ∧ (Once ps ds) ∧ (∀ d ∈ ds, d.l.length ≤ i)) (sts.length - 0) ?_ ?_
      · exact ⟨0, [⟨bv, Vau.new, s18⟩], [⟨none, 0, [], []⟩], some ⟨b26, 0, none⟩, 1, [(b26, Cel [.pointer (some ⟨bv, 0, none⟩)] 24)], some ⟨b27, 0, none⟩, 1, [(b27, Cel [.slice none 0 0] 64)], rfl, hF.sub ⟨rfl, rfl, rfl, rfl, trivial⟩, hS.sel [1, 0, 3, 2] rfl rfl, by omega, (by intro x hx; rw [List.mem_singleton.1 hx]; exact hV), (by intro x hx; rw [List.mem_singleton.1 hx]; exact OwnS.nil 3 1), own_one24 b26 _, own_one64 b27, rfl, ⟨by simp, by simp⟩, (by intro k x y _ hy z hz; rcases k with _ | k <;> simp at hy; subst hy; simp at hz), (by intro x hx; rw [List.mem_singleton.1 hx]; exact Nat.le_refl 0)⟩
      · rintro KL1 g a w ⟨i, ps, ds, A5, e5, s5, A6, e6, s6, hg1, hF, hS, hi, hPk, hDk, hO5, hO6, hl, h16, hOn, hDl⟩ hKL1
        refine wp_seq_k fun K10 hK10 => ?_
        refine wp_seq_k fun K11 hK11 => ?_
        refine wp_region_lit ?_
        refine sv' hF (wn rfl) rfl rfl (R.move (hF.ev rfl)) fun a hF => ?_
        refine sv' hF (wn rfl) rfl rfl (R.move (hF.ev rfl)) fun a hF => ?_
        refine sv' hF (wn rfl) rfl rfl (R.len Try.underlying22 (hF.ev rfl)) fun a hF => ?_
        refine sv' hF (wn rfl) rfl rfl (R.lss (hF.ev rfl) (hF.ev rfl)) fun a hF => ?_
        refine s0 ?_
        refine then_n (hK11 _ _ ?_)
        refine cD hF rfl (fun c2 => ?_) (fun c2 => ?_)
        ·
          obtain ⟨p, hp⟩ : ∃ p, sts[i]? = some p := ⟨_, List.getElem?_eq_getElem (by omega)⟩
          have hpo := hok p (List.mem_of_getElem? hp)
          refine wp_skip ?_
          refine then_n (hK10 _ _ ?_)
          refine wp_seq_k fun K12 hK12 => ?_
          have hK12' : ∀ a w, (∃ (ps3 : List Pv) (ds3 : List Pd) (D5 : Option Addr) (h5 : Nat) (y5 : Seg) (D6 : Option Addr) (h6 : Nat) (y6 : Seg), Fr 163 [(0, .slice A sts.length cap), (5, .slice D5 ps3.length h5), (6, .slice D6 ds3.length h6), (7, .int .i64 ((i : Nat) : Int))] a ∧ St w0 [] [flS Pv.sg ps3, flS Pd.sg ds3, y5, y6] w ∧ (PoolOk ps3) ∧ (PdOk ds3) ∧ (OwnS y5 D5 ps3.length h5 (pptr ps3) 24 1) ∧ (OwnS y6 D6 ds3.length h6 (pdv ds3) 64 1) ∧ (ps3.length = ds3.length) ∧ (0 < ps3.length ∧ ps3.length ≤ 6) ∧ (Once ps3 ds3) ∧ (∀ d ∈ ds3, d.l.length ≤ (i + 1))) → K12 a w := by
            rintro a w ⟨ps3, ds3, D5, h5, y5, D6, h6, y6, hF, hS, hPk3, hDk3, hO53, hO63, hl3, h163, hOn3, hDl3⟩
            refine hK12 _ _ ?_
            refine wp_region_lit ?_
            refine sv' hF (wn rfl) rfl rfl (R.move (hF.ev rfl)) fun a hF => ?_
            refine sv' hF (wn rfl) rfl rfl (R.addI (hF.ev rfl) (hF.ev rfl) (by omega)) fun a hF => ?_
            refine sv' hF (wn rfl) rfl rfl (R.assign (hF.ev rfl)) fun a hF => ?_
            refine s0 ?_
            refine then_n (hKL1 (sts.length - (i + 1)) _ _ ?_ ?_)
            · omega
            · exact ⟨i + 1, ps3, ds3, D5, h5, y5, D6, h6, y6, rfl, hF.sub ⟨rfl, rfl, rfl, rfl, trivial⟩, hS.sel [0, 1, 2, 3] rfl rfl, by omega, hPk3, hDk3, hO53, hO63, hl3, h163, hOn3, hDl3⟩
          refine wp_block ?_
          refine wp_seq_k fun K13 hK13 => ?_
          refine wp_region_lit ?_
          refine sv' hF (wn rfl) rfl rfl (R.move (hF.ev rfl)) fun a hF => ?_
          refine sv' hF (wn rfl) rfl rfl (R.move (hF.ev rfl)) fun a hF => ?_
          refine sv' hF (wn rfl) rfl rfl (R.indexO Try.underlying22 sz34 (hF.ev rfl) (stp_ne (hA.old hS) hp) (hF.ev rfl) (by omega) (by omega)) fun a hF => ?_
          refine sv' hF (wn rfl) rfl rfl (R.fieldAddrO (m := 0) Try.underlying34 rfl nz3 (hF.ev rfl) (stp_ne (hA.old hS) hp) rfl) fun a hF => ?_
          refine sv' hF (wn rfl) rfl rfl (R.loadO one3 (hF.ev rfl) (hA.old hS) (stp_at hp rfl)) fun a hF => ?_
          refine sv' hF (wn rfl) rfl rfl (R.move (hF.ev rfl)) fun a hF => ?_
          refine sv' hF (wn rfl) rfl rfl (R.len Try.underlying57 (hF.ev rfl)) fun a hF => ?_
          refine so (wn rfl) (O.call rfl rfl hF ent21 (hF.evs rfl) hS (pick_calls p.which (ps.length : Int) _ hpo.which (by omega) (by omega)) fun v s41 a w hR hF hS => ?_)
          obtain ⟨rfl, rfl⟩ := hR
          have g0 := pickN_0 p.which (n := (ps.length : Int)) (by omega); have g1 := pickN_lt p.which (n := (ps.length : Int)) (by omega); obtain ⟨nn, hnn⟩ : ∃ k : Nat, pickN p.which (ps.length : Int) = (k : Int) := ⟨(pickN p.which (ps.length : Int)).toNat, (Int.toNat_of_nonneg g0).symm⟩; rw [hnn] at hF g1; clear g0 hnn; have hlt : nn < ps.length := (by omega); obtain ⟨q, hq⟩ : ∃ q, ps[nn]? = some q := ⟨_, List.getElem?_eq_getElem hlt⟩; obtain ⟨d, hd⟩ : ∃ d, ds[nn]? = some d := ⟨_, List.getElem?_eq_getElem (by omega)⟩; have hV := hPk q (List.mem_of_getElem? hq); have hDd := hDk d (List.mem_of_getElem? hd); have hdl := hDl d (List.mem_of_getElem? hd)
          refine sv' hF (wn rfl) rfl rfl (R.assign (hF.ev rfl)) fun a hF => ?_
          refine s0 ?_
          refine then_n (hK13 _ _ ?_)
          refine wp_seq_k fun K14 hK14 => ?_
          have hS := hS.sel [1, 0, 2, 3, 4] rfl rfl
          have hS := hS.cut3 hq
          refine wp_drawS hS [(0, 0), (1, 0), (2, 0), (3, 1), (4, 0), (5, 0), (6, 0), (7, 1), (8, 3), (9, 0), (10, 0), (11, 0), (12, 0), (13, 0)] mix (by kernel_rfl) (hP.then.block.then.then.block.then) fun w hS => ?_
          have hD := hS
          refine dq hF rfl (wn rfl) rfl rfl (fun w => R.move (hF.ev rfl)) fun a hF => ?_
          refine dq hF rfl (wn rfl) rfl rfl (fun w => R.move (hF.ev rfl)) fun a hF => ?_
          refine dq hF rfl (wn rfl) rfl rfl (fun w => R.indexO Try.underlying57 sz24 (hF.ev rfl) (Rd.ne (hO5.rd hS (.t (.t (.t (.t (.t .h)))))) (by rw [length_pptr]; omega)) (hF.ev rfl) (by omega) (by omega)) fun a hF => ?_
          refine dr hF rfl (wn rfl) rfl rfl hD (fun w hD => R.loadO one24 (hF.ev rfl) (hO5.rd hD (.t (.t (.t (.t (.t .h)))))) (pptr_at hq (by omega))) fun a hF => ?_
          refine dq hF rfl (wn rfl) rfl rfl (fun w => R.move (hF.ev rfl)) fun a hF => ?_
          refine dq hF rfl (wn rfl) rfl rfl (fun w => R.move (hF.ev rfl)) fun a hF => ?_
          refine dq hF rfl (wn rfl) rfl rfl (fun w => R.indexO Try.underlying22 sz34 (hF.ev rfl) (stp_ne (hA.old hS) hp) (hF.ev rfl) (by omega) (by omega)) fun a hF => ?_
          refine dr hF rfl (wn rfl) rfl rfl hD (fun w hD => R.loadAO (cs := stpL p) agg34 (hF.ev rfl) (hA.old hD) sz34 rfl (Nat.succ_pos _) (fun j v h => stp_at hp h)) fun a hF => ?_
          refine dw rfl (wn rfl) (O.callK rfl rfl hF ent20 (hF.evs rfl) hS (changing_calls q.bv q.V p q.sg _ hV (hS.own1 (.t .h)) hpo) (fun _ => (.t .h)) fun v s51 a w hR hF hS => ?_)
          obtain ⟨bb, rfl, hV2⟩ := hR
          refine dq hF rfl (wn rfl) rfl rfl (fun w => R.move (hF.ev rfl)) fun a hF => ?_
          refine dq hF rfl (wn rfl) rfl rfl (fun w => R.extract (hF.ev rfl) rfl) fun a hF => ?_
          refine dq hF rfl (wn rfl) rfl rfl (fun w => R.extract (hF.ev rfl) rfl) fun a hF => ?_
          refine dq hF rfl (wn rfl) rfl rfl (fun w => R.assign (hF.ev rfl)) fun a hF => ?_
          refine dq hF rfl (wn rfl) rfl rfl (fun w => R.assign (hF.ev rfl)) fun a hF => ?_
          refine d0 ?_
          refine then_n (hK14 _ _ ?_)
          refine wp_seq_k fun K15 hK15 => ?_
          have hS := hS.sel [0, 1, 2, 3, 4, 5, 6] rfl rfl
          have hS := hS.join3 hlt (⟨q.bv, (q.V.chg p).1, s51⟩) rfl
          have hPk1 := hPk.set (k := nn) (q := ⟨q.bv, (q.V.chg p).1, s51⟩) hV2; have hOn1 := hOn.setV (q := ⟨q.bv, (q.V.chg p).1, s51⟩) hq (paid_mono q.V p); have hpp1 := pptr_set (q := ⟨q.bv, (q.V.chg p).1, s51⟩) hq rfl; have hl1 : (ps.set nn ⟨q.bv, (q.V.chg p).1, s51⟩).length = ps.length := List.length_set; have hq1 : (ps.set nn ⟨q.bv, (q.V.chg p).1, s51⟩)[nn]? = some ⟨q.bv, (q.V.chg p).1, s51⟩ := (by rw [List.getElem?_set_self hlt])
          generalize ps.set nn ⟨q.bv, (q.V.chg p).1, s51⟩ = ps1 at hS hPk1 hOn1 hpp1 hl1 hq1
          refine wp_region_lit ?_
          refine sv' hF (wn rfl) rfl rfl (R.move (hF.ev rfl)) fun a hF => ?_
          refine sv' hF (wn rfl) rfl rfl (R.move (hF.ev rfl)) fun a hF => ?_
          refine sv' hF (wn rfl) rfl rfl (R.indexO Try.underlying22 sz34 (hF.ev rfl) (stp_ne (hA.old hS) hp) (hF.ev rfl) (by omega) (by omega)) fun a hF => ?_
          refine sv' hF (wn rfl) rfl rfl (R.fieldAddrO (m := 1) Try.underlying34 rfl nz3 (hF.ev rfl) (stp_ne (hA.old hS) hp) rfl) fun a hF => ?_
          refine sv' hF (wn rfl) rfl rfl (R.loadO one3 (hF.ev rfl) (hA.old hS) (stp_at hp rfl)) fun a hF => ?_
          refine so (wn rfl) (O.call rfl rfl hF ent21 (hF.evs rfl) hS (pick_calls p.what 11 _ hpo.what (by decide) (by decide)) fun v s59 a w hR hF hS => ?_)
          obtain ⟨rfl, rfl⟩ := hR
          refine sv' hF (wn rfl) rfl rfl (R.assign (hF.ev rfl)) fun a hF => ?_
          refine s0 ?_
          refine then_n (hK15 _ _ ?_)
          refine wp_seq_k fun K16 hK16 => ?_
          have hK16' : ∀ a w, (∃ (ps2 : List Pv) (ds2 : List Pd) (B5 : Option Addr) (f5 : Nat) (z5 : Seg) (B6 : Option Addr) (f6 : Nat) (z6 : Seg), Fr 163 [(0, .slice A sts.length cap), (5, .slice B5 ps2.length f5), (6, .slice B6 ds2.length f6), (7, .int .i64 ((i : Nat) : Int)), (8, .int .i64 ((nn : Nat) : Int)), (10, .int .i64 (q.V.chg p).2), (11, .int .i64 (pickN p.what 11))] a ∧ St w0 [] [flS Pv.sg ps2, flS Pd.sg ds2, z5, z6] w ∧ (PoolOk ps2) ∧ (PdOk ds2) ∧ (OwnS z5 B5 ps2.length f5 (pptr ps2) 24 1) ∧ (OwnS z6 B6 ds2.length f6 (pdv ds2) 64 1) ∧ (ps2.length = ds2.length) ∧ (0 < ps2.length ∧ ps2.length ≤ 6) ∧ (Once ps2 ds2) ∧ (∀ d ∈ ds2, d.l.length ≤ i) ∧ (∃ q2, ps2[nn]? = some q2 ∧ q2.V = (q.V.chg p).1) ∧ (ds2[nn]? = some d)) → K16 a w := by
            rintro a w ⟨ps2, ds2, B5, f5, z5, B6, f6, z6, hF, hS, hPk2, hDk2, hO52, hO62, hl2, h162, hOn2, hDl2, hq2, hd2⟩
            refine hK16 _ _ ?_
            refine wp_seq_k fun K17 hK17 => ?_
            refine wp_seq_k fun K18 hK18 => ?_
            refine wp_region_lit ?_
            refine sv' hF (wn rfl) rfl rfl (R.move (hF.ev rfl)) fun a hF => ?_
            refine sv' hF (wn rfl) rfl rfl (R.neq (hF.ev rfl) (hF.ev rfl)) fun a hF => ?_
            refine s0 ?_
            refine then_n (hK18 _ _ ?_)
            refine cD hF rfl (fun c5 => ?_) (fun c5 => ?_)
            ·
              refine wp_exit (then_x (blk_hit ?_))
              exact then_n (hK12' _ _ ⟨ps2, ds2, B5, f5, z5, B6, f6, z6, hF.sub ⟨rfl, rfl, rfl, rfl, trivial⟩, hS.sel [0, 1, 2, 3] rfl rfl, hPk2, hDk2, hO52, hO62, hl2, h162, hOn2, fun x hx => Nat.le_succ_of_le (hDl2 x hx)⟩)
            ·
              have hw4 : pickN p.what 11 = 4 := by omega
              have hDd := hDk2 d (List.mem_of_getElem? hd2)
              have hdl2 := hDl2 d (List.mem_of_getElem? hd2)
              obtain ⟨q2, hq2, hV2e⟩ := hq2
              have hnn2 := (List.getElem?_eq_some_iff.1 hq2).1
              refine wp_skip ?_
              refine then_n (hK17 _ _ ?_)
              refine wp_seq_k fun K19 hK19 => ?_
              refine wp_region_lit ?_
              refine sv' hF (wn rfl) rfl rfl (R.assign (hF.ev rfl)) fun a hF => ?_
              refine s0 ?_
              refine then_n (hK19 _ _ ?_)
              refine wp_seq_k fun K20 hK20 => ?_
              refine wp_seq_k fun K21 hK21 => ?_
              refine wp_region_lit ?_
              refine sv' hF (wn rfl) rfl rfl (R.assign (hF.ev rfl)) fun a hF => ?_
              refine s0 ?_
              refine then_n (hK21 _ _ ?_)
              refine wp_block ?_
              refine wp_loop_N (fun g a w => ∃ (j : Nat), d.l.length - j = g ∧ Fr 163 [(0, .slice A sts.length cap), (5, .slice B5 ps2.length f5), (6, .slice B6 ds2.length f6), (7, .int .i64 ((i : Nat) : Int)), (8, .int .i64 ((nn : Nat) : Int)), (10, .int .i64 (q.V.chg p).2), (11, .int .i64 (pickN p.what 11)), (13, .bool (decide (p.index ∈ d.l.take j))), (14, .int .i64 ((j : Nat) : Int))] a ∧ St w0 [] [flS Pv.sg ps2, flS Pd.sg ds2, z5, z6] w ∧ (j ≤ d.l.length)) (d.l.length - 0) ?_ ?_
              · exact ⟨0, rfl, hF.sub ⟨rfl, rfl, rfl, rfl, rfl, rfl, rfl, (by rw [List.take_zero]; rfl), rfl, trivial⟩, hS.sel [0, 1, 2, 3] rfl rfl, by omega⟩
              · rintro KL2 g a w ⟨j, hg2, hF, hS, hj⟩ hKL2
                refine wp_seq_k fun K22 hK22 => ?_
                refine wp_seq_k fun K23 hK23 => ?_
                refine wp_region_lit ?_
                refine sv' hF (wn rfl) rfl rfl (R.move (hF.ev rfl)) fun a hF => ?_
                refine sv' hF (wn rfl) rfl rfl (R.move (hF.ev rfl)) fun a hF => ?_
                refine sv' hF (wn rfl) rfl rfl (R.move (hF.ev rfl)) fun a hF => ?_
                refine sv' hF (wn rfl) rfl rfl (R.indexO Try.underlying63 sz64 (hF.ev rfl) (Rd.ne (hO62.rd hS (.t (.t (.t .h)))) (by rw [length_pdv]; omega)) (hF.ev rfl) (by omega) (by omega)) fun a hF => ?_
                refine sv' hF (wn rfl) rfl rfl (R.loadO one64 (hF.ev rfl) (hO62.rd hS (.t (.t (.t .h)))) (pdv_at hd2 (by omega))) fun a hF => ?_
                refine sv' hF (wn rfl) rfl rfl (R.len Try.underlying64 (hF.ev rfl)) fun a hF => ?_
                refine sv' hF (wn rfl) rfl rfl (R.lss (hF.ev rfl) (hF.ev rfl)) fun a hF => ?_
                refine s0 ?_
                refine then_n (hK23 _ _ ?_)
                refine cD hF rfl (fun c6 => ?_) (fun c6 => ?_)
                ·
                  refine wp_skip ?_
                  refine then_n (hK22 _ _ ?_)
                  refine wp_seq_k fun K24 hK24 => ?_
                  have hK24' : ∀ a w, (Fr 163 [(0, .slice A sts.length cap), (5, .slice B5 ps2.length f5), (6, .slice B6 ds2.length f6), (7, .int .i64 ((i : Nat) : Int)), (8, .int .i64 ((nn : Nat) : Int)), (10, .int .i64 (q.V.chg p).2), (11, .int .i64 (pickN p.what 11)), (13, .bool (decide (p.index ∈ d.l.take (j + 1)))), (14, .int .i64 ((j : Nat) : Int))] a ∧ St w0 [] [flS Pv.sg ps2, flS Pd.sg ds2, z5, z6] w) → K24 a w := by
                    rintro a w ⟨hF, hS⟩
                    refine hK24 _ _ ?_
                    refine wp_region_lit ?_
                    refine sv' hF (wn rfl) rfl rfl (R.move (hF.ev rfl)) fun a hF => ?_
                    refine sv' hF (wn rfl) rfl rfl (R.addI (hF.ev rfl) (hF.ev rfl) (by omega)) fun a hF => ?_
                    refine sv' hF (wn rfl) rfl rfl (R.assign (hF.ev rfl)) fun a hF => ?_
                    refine s0 ?_
                    refine then_n (hKL2 (d.l.length - (j + 1)) _ _ ?_ ?_)
                    · omega
                    · exact ⟨j + 1, rfl, hF.sub ⟨rfl, rfl, rfl, rfl, rfl, rfl, rfl, rfl, rfl, trivial⟩, hS.sel [0, 1, 2, 3] rfl rfl, by omega⟩
                  refine wp_block ?_
                  refine wp_drawS hS [(0, 0), (1, 0), (2, 0), (3, 0), (4, 0), (5, 1), (6, 0), (7, 0), (8, 1), (9, 0), (10, 0), (11, 0), (12, 0), (13, 1), (14, 0), (15, 0), (16, 0)] mix (by kernel_rfl) (hP.then.block.then.then.block.then.block.then.then.block) fun w hS => ?_
                  have hD := hS
                  refine dq hF rfl (wn rfl) rfl rfl (fun w => R.move (hF.ev rfl)) fun a hF => ?_
                  refine dq hF rfl (wn rfl) rfl rfl (fun w => R.move (hF.ev rfl)) fun a hF => ?_
                  refine hF.splitD (t := 99) rfl (fun h99 hF => ?_) (fun h99 hF => ?_)
                  ·
                    refine dk hF rfl (ws hF rfl rfl rfl rfl) rfl rfl fun a hF => ?_
                    refine dk hF rfl (ws hF rfl rfl rfl rfl) rfl rfl fun a hF => ?_
                    refine dk hF rfl (ws hF rfl rfl rfl rfl) rfl rfl fun a hF => ?_
                    refine dk1 hF rfl (ws hF rfl rfl rfl rfl) rfl rfl hD fun a hF => ?_
                    refine dk hF rfl (ws hF rfl rfl rfl rfl) rfl rfl fun a hF => ?_
                    refine dk hF rfl (ws hF rfl rfl rfl rfl) rfl rfl fun a hF => ?_
                    refine dk1 hF rfl (ws hF rfl rfl rfl rfl) rfl rfl hD fun a hF => ?_
                    refine dk hF rfl (ws hF rfl rfl rfl rfl) rfl rfl fun a hF => ?_
                    refine dk hF rfl (ws hF rfl rfl rfl rfl) rfl rfl fun a hF => ?_
                    refine dk hF rfl (ws hF rfl rfl rfl rfl) rfl rfl fun a hF => ?_
                    refine dk hF rfl (ws hF rfl rfl rfl rfl) rfl rfl fun a hF => ?_
                    refine dk1 hF rfl (ws hF rfl rfl rfl rfl) rfl rfl hD fun a hF => ?_
                    refine dk hF rfl (ws hF rfl rfl rfl rfl) rfl rfl fun a hF => ?_
                    refine dq hF rfl (wn rfl) rfl rfl (fun w => R.pickT (hF.ev rfl) (hF.ev rfl)) fun a hF => ?_
                    refine dq hF rfl (wn rfl) rfl rfl (fun w => R.assign (hF.ev rfl)) fun a hF => ?_
                    refine d0 ?_
                    refine blk_n ?_
                    exact then_n (hK24' _ _ ⟨hF.sub ⟨rfl, rfl, rfl, rfl, rfl, rfl, rfl, (congrArg (fun z => some (Value.bool z)) (decide_eq_true (mem_succ h99)).symm), rfl, trivial⟩, hS.sel [0, 1, 2, 3] rfl rfl⟩)
                  ·
                    refine dq hF rfl (wy hF rfl rfl rfl) rfl rfl (fun w => R.move (hF.ev rfl)) fun a hF => ?_
                    refine dq hF rfl (wy hF rfl rfl rfl) rfl rfl (fun w => R.move (hF.ev rfl)) fun a hF => ?_
                    refine dq hF rfl (wy hF rfl rfl rfl) rfl rfl (fun w => R.indexO Try.underlying63 sz64 (hF.ev rfl) (Rd.ne (hO62.rd hS (.t (.t (.t .h)))) (by rw [length_pdv]; omega)) (hF.ev rfl) (by omega) (by omega)) fun a hF => ?_
                    refine dr hF rfl (wy hF rfl rfl rfl) rfl rfl hD (fun w hD => R.loadO one64 (hF.ev rfl) (hO62.rd hD (.t (.t (.t .h)))) (pdv_at hd2 (by omega))) fun a hF => ?_
                    refine dq hF rfl (wy hF rfl rfl rfl) rfl rfl (fun w => R.move (hF.ev rfl)) fun a hF => ?_
                    refine dq hF rfl (wy hF rfl rfl rfl) rfl rfl (fun w => R.indexO Try.underlying64 sz3 (hF.ev rfl) (Rd.ne (hDd.rdW (St.ownIn hS (.t .h) hd2)) (by rw [length_ixs]; omega)) (hF.ev rfl) (by omega) (by omega)) fun a hF => ?_
                    refine dr hF rfl (wy hF rfl rfl rfl) rfl rfl hD (fun w hD => R.loadO one3 (hF.ev rfl) (hDd.rdW (St.ownIn hD (.t .h) hd2)) (ixs_at (l := d.l) (k := j) (by omega) (by omega))) fun a hF => ?_
                    refine dq hF rfl (wy hF rfl rfl rfl) rfl rfl (fun w => R.move (hF.ev rfl)) fun a hF => ?_
                    refine dq hF rfl (wy hF rfl rfl rfl) rfl rfl (fun w => R.move (hF.ev rfl)) fun a hF => ?_
                    refine dq hF rfl (wy hF rfl rfl rfl) rfl rfl (fun w => R.indexO Try.underlying22 sz34 (hF.ev rfl) (stp_ne (hA.old hS) hp) (hF.ev rfl) (by omega) (by omega)) fun a hF => ?_
                    refine dq hF rfl (wy hF rfl rfl rfl) rfl rfl (fun w => R.fieldAddrO (m := 3) Try.underlying34 rfl nz3 (hF.ev rfl) (stp_ne (hA.old hS) hp) rfl) fun a hF => ?_
                    refine dr hF rfl (wy hF rfl rfl rfl) rfl rfl hD (fun w hD => R.loadO one3 (hF.ev rfl) (hA.old hD) (stp_at hp rfl)) fun a hF => ?_
                    refine dq hF rfl (wy hF rfl rfl rfl) rfl rfl (fun w => R.eql (hF.ev rfl) (hF.ev rfl)) fun a hF => ?_
                    refine dq hF rfl (wn rfl) rfl rfl (fun w => R.pickF (hF.ev rfl) (hF.ev rfl)) fun a hF => ?_
                    refine dq hF rfl (wn rfl) rfl rfl (fun w => R.assign (hF.ev rfl)) fun a hF => ?_
                    refine d0 ?_
                    refine blk_n ?_
                    exact then_n (hK24' _ _ ⟨hF.sub ⟨rfl, rfl, rfl, rfl, rfl, rfl, rfl, (congrArg (fun z => some (Value.bool z)) (decide_eq_decide.2 (mem_succ2 (by omega) h99))), rfl, trivial⟩, hS.sel [0, 1, 2, 3] rfl rfl⟩)
                ·
                  obtain rfl : j = d.l.length := by omega
                  rw [List.take_length] at hF
                  refine wp_exit (then_x (then_x (blk_hit ?_)))
                  refine then_n (hK20 _ _ ?_)
                  refine wp_seq_k fun K25 hK25 => ?_
                  refine wp_seq_k fun K26 hK26 => ?_
                  refine wp_region_lit ?_
                  refine sv' hF (wn rfl) rfl rfl (R.move (hF.ev rfl)) fun a hF => ?_
                  refine sv' hF (wn rfl) rfl rfl (R.move (hF.ev rfl)) fun a hF => ?_
                  refine hF.splitD (t := 115) rfl (fun h115 hF => ?_) (fun h115 hF => ?_)
                  ·
                    refine sv' hF (wy hF rfl rfl rfl) rfl rfl (R.move (hF.ev rfl)) fun a hF => ?_
                    refine sv' hF (wy hF rfl rfl rfl) rfl rfl (R.as (u := .bool false) (R.eql (p := (q.V.chg p).2) (q := 0) (hF.ev rfl) (hF.ev rfl)) (congrArg Value.bool (decide_eq_false (fun h => by have h1 := (chg4 hw4 h).2.2.2.1; rw [hOn nn q d hq hd p.index h115] at h1; exact absurd h1 (by decide))))) fun a hF => ?_
                    refine sv' hF (wn rfl) rfl rfl (R.pickT (hF.ev rfl) (hF.ev rfl)) fun a hF => ?_
                    refine s0 ?_
                    refine then_n (hK26 _ _ ?_)
                    refine cF hF rfl ?_
                    refine wp_skip ?_
                    refine then_n (hK25 _ _ ?_)
                    refine wp_seq_k fun K27 hK27 => ?_
                    refine wp_region_lit ?_
                    refine sv' hF (wn rfl) rfl rfl (R.move (hF.ev rfl)) fun a hF => ?_
                    refine sv' hF (wn rfl) rfl rfl (R.eql (hF.ev rfl) (hF.ev rfl)) fun a hF => ?_
                    refine s0 ?_
                    refine then_n (hK27 _ _ ?_)
                    refine cD hF rfl (fun c8 => ?_) (fun c8 => ?_)
                    ·
                      have hidx : q2.V.paid p.index = true := by rw [hV2e, (chg4 hw4 c8).2.2.1]; simp [updF]
                      have hS := hS.sel [1, 0, 2, 3] rfl rfl
                      have hS := hS.cut3 hd2
                      obtain ⟨g6, rest6, rfl, rfl, o6a, o6b, o6c⟩ := own_open3 hO62 (by omega)
                      refine wp_drawG hS (hS.sel [0, 2, 3, 4, 5] rfl rfl) [(0, 0), (1, 0), (2, 0), (3, 0), (4, 0), (5, 1), (6, 0), (7, 0), (8, 0), (9, 0), (10, 1), (11, 2), (12, 2), (13, 0), (14, 3)] mix (by kernel_rfl) (hP.then.block.then.then.block) fun w hS hD => ?_
                      refine dq hF rfl (wn rfl) rfl rfl (fun w => R.move (hF.ev rfl)) fun a hF => ?_
                      refine dq hF rfl (wn rfl) rfl rfl (fun w => R.move (hF.ev rfl)) fun a hF => ?_
                      refine dq hF rfl (wn rfl) rfl rfl (fun w => R.move (hF.ev rfl)) fun a hF => ?_
                      refine dq hF rfl (wn rfl) rfl rfl (fun w => R.move (hF.ev rfl)) fun a hF => ?_
                      refine dq hF rfl (wn rfl) rfl rfl (fun w => R.indexS Try.underlying63 sz64 (hF.ev rfl) (hF.ev rfl) (by omega) (by omega)) fun a hF => ?_
                      refine dr hF rfl (wn rfl) rfl rfl hD (fun w hD => R.load one64 (hF.ev rfl) hD (.t (.t (.t (.t .h)))) (pdv_left hd2 (by omega))) fun a hF => ?_
                      refine dq hF rfl (wn rfl) rfl rfl (fun w => R.move (hF.ev rfl)) fun a hF => ?_
                      refine dq hF rfl (wn rfl) rfl rfl (fun w => R.move (hF.ev rfl)) fun a hF => ?_
                      refine dq hF rfl (wn rfl) rfl rfl (fun w => R.indexO Try.underlying22 sz34 (hF.ev rfl) (stp_ne (hA.old hS) hp) (hF.ev rfl) (by omega) (by omega)) fun a hF => ?_
                      refine dq hF rfl (wn rfl) rfl rfl (fun w => R.fieldAddrO (m := 3) Try.underlying34 rfl nz3 (hF.ev rfl) (stp_ne (hA.old hS) hp) rfl) fun a hF => ?_
                      refine dr hF rfl (wn rfl) rfl rfl hD (fun w hD => R.loadO one3 (hF.ev rfl) (hA.old hD) (stp_at hp rfl)) fun a hF => ?_
                      refine dl rfl (wn rfl) (O.buildSlice (l := [_]) rfl rfl hF Try.underlying64 inf3 rfl rfl (hF.evp rfl) (by decide) rfl hS fun b132 a w hF hS => ⟨fun hD => hS.sel [1, 3, 4, 5, 6] rfl rfl, ?_⟩)
                      have hD := hS.sel [1, 3, 4, 5, 6] rfl rfl
                      refine dl rfl (wn rfl) (O.append rfl rfl hF Try.underlying64 inf3 rfl rfl (by decide) (hF.ev rfl) (hF.ev rfl) hS hDd (fun _ => (.t (.t .h))) (Rd.own0 hS .h) rfl (by simp [Value.oneCell']) (by unfold maxLen; omega) (by omega) fun A133 c133 s133 a w hO133 hF hS => ⟨fun hD => hS.sel [1, 3, 4, 5, 6] rfl rfl, ?_⟩)
                      have hD := hS.sel [1, 3, 4, 5, 6] rfl rfl
                      rw [ixs_snoc] at hO133; rw [show d.l.length + 1 = (d.l ++ [p.index]).length from (by rw [List.length_append]; rfl)] at hF hO133
                      refine dq hF rfl (wn rfl) rfl rfl (fun w => R.indexS Try.underlying63 sz64 (hF.ev rfl) (hF.ev rfl) (by omega) (by omega)) fun a hF => ?_
                      refine dw rfl (wn rfl) (O.store sz64 (hF.ev rfl) (hF.ev rfl) rfl rfl hS (.t (.t (.t (.t (.t (.t .h)))))) (pdv_set (ds := ds2) (k := nn) (rest := rest6) (d := ⟨A133, c133, d.l ++ [p.index], s133⟩) (by omega) (by omega)) (by rw [List.length_append, length_pdv]; omega) fun w hS => ?_)
                      refine d0 ?_
                      refine blk_n ?_
                      have hS := hS.sel [1, 2, 3, 0, 4, 5, 6] rfl rfl
                      have hS := hS.join3 (by omega) (⟨A133, c133, d.l ++ [p.index], s133⟩) rfl
                      exact then_n (hK12' _ _ ⟨ps2, ds2.set nn ⟨A133, c133, d.l ++ [p.index], s133⟩, B5, f5, z5, some ⟨g6, 0, none⟩, f6, _, hF.sub ⟨rfl, rfl, (by rw [List.length_set]; rfl), rfl, trivial⟩, hS.sel [2, 0, 3, 4] rfl rfl, hPk2, hDk2.set hO133, hO52, (by rw [List.length_set]; exact OwnS.mk (by rw [length_pdv, List.length_set, Nat.mul_one]) o6a (by rw [List.length_append, length_pdv, List.length_set, ← length_pdv, ← List.length_append]; exact o6b) o6c), (by rw [List.length_set]; exact hl2), h162, hOn2.setD hq2 (once_snoc hOn2 hq2 hd2 hidx), (by intro x hx; rcases List.mem_or_eq_of_mem_set hx with h | rfl; exact Nat.le_succ_of_le (hDl2 x h); exact (by rw [List.length_append]; exact Nat.succ_le_succ (hDl2 d (List.mem_of_getElem? hd2))))⟩)
                    ·
                      refine wp_skip ?_
                      refine blk_n ?_
                      exact then_n (hK12' _ _ ⟨ps2, ds2, B5, f5, z5, B6, f6, z6, hF.sub ⟨rfl, rfl, rfl, rfl, trivial⟩, hS.sel [0, 1, 2, 3] rfl rfl, hPk2, hDk2, hO52, hO62, hl2, h162, hOn2, fun x hx => Nat.le_succ_of_le (hDl2 x hx)⟩)
                  ·
                    refine sk hF (ws hF rfl rfl rfl rfl) rfl rfl fun a hF => ?_
                    refine sk hF (ws hF rfl rfl rfl rfl) rfl rfl fun a hF => ?_
                    refine sv' hF (wn rfl) rfl rfl (R.pickF (hF.ev rfl) (hF.ev rfl)) fun a hF => ?_
                    refine s0 ?_
                    refine then_n (hK26 _ _ ?_)
                    refine cF hF rfl ?_
                    refine wp_skip ?_
                    refine then_n (hK25 _ _ ?_)
                    refine wp_seq_k fun K28 hK28 => ?_
                    refine wp_region_lit ?_
                    refine sv' hF (wn rfl) rfl rfl (R.move (hF.ev rfl)) fun a hF => ?_
                    refine sv' hF (wn rfl) rfl rfl (R.eql (hF.ev rfl) (hF.ev rfl)) fun a hF => ?_
                    refine s0 ?_
                    refine then_n (hK28 _ _ ?_)
                    refine cD hF rfl (fun c8 => ?_) (fun c8 => ?_)
                    ·
                      have hidx : q2.V.paid p.index = true := by rw [hV2e, (chg4 hw4 c8).2.2.1]; simp [updF]
                      have hS := hS.sel [1, 0, 2, 3] rfl rfl
                      have hS := hS.cut3 hd2
                      obtain ⟨g6, rest6, rfl, rfl, o6a, o6b, o6c⟩ := own_open3 hO62 (by omega)
                      refine wp_drawG hS (hS.sel [0, 2, 3, 4, 5] rfl rfl) [(0, 0), (1, 0), (2, 0), (3, 0), (4, 0), (5, 1), (6, 0), (7, 0), (8, 0), (9, 0), (10, 1), (11, 2), (12, 2), (13, 0), (14, 3)] mix (by kernel_rfl) (hP.then.block.then.then.block) fun w hS hD => ?_
                      refine dq hF rfl (wn rfl) rfl rfl (fun w => R.move (hF.ev rfl)) fun a hF => ?_
                      refine dq hF rfl (wn rfl) rfl rfl (fun w => R.move (hF.ev rfl)) fun a hF => ?_
                      refine dq hF rfl (wn rfl) rfl rfl (fun w => R.move (hF.ev rfl)) fun a hF => ?_
                      refine dq hF rfl (wn rfl) rfl rfl (fun w => R.move (hF.ev rfl)) fun a hF => ?_
                      refine dq hF rfl (wn rfl) rfl rfl (fun w => R.indexS Try.underlying63 sz64 (hF.ev rfl) (hF.ev rfl) (by omega) (by omega)) fun a hF => ?_
                      refine dr hF rfl (wn rfl) rfl rfl hD (fun w hD => R.load one64 (hF.ev rfl) hD (.t (.t (.t (.t .h)))) (pdv_left hd2 (by omega))) fun a hF => ?_
                      refine dq hF rfl (wn rfl) rfl rfl (fun w => R.move (hF.ev rfl)) fun a hF => ?_
                      refine dq hF rfl (wn rfl) rfl rfl (fun w => R.move (hF.ev rfl)) fun a hF => ?_
                      refine dq hF rfl (wn rfl) rfl rfl (fun w => R.indexO Try.underlying22 sz34 (hF.ev rfl) (stp_ne (hA.old hS) hp) (hF.ev rfl) (by omega) (by omega)) fun a hF => ?_
                      refine dq hF rfl (wn rfl) rfl rfl (fun w => R.fieldAddrO (m := 3) Try.underlying34 rfl nz3 (hF.ev rfl) (stp_ne (hA.old hS) hp) rfl) fun a hF => ?_
                      refine dr hF rfl (wn rfl) rfl rfl hD (fun w hD => R.loadO one3 (hF.ev rfl) (hA.old hD) (stp_at hp rfl)) fun a hF => ?_
                      refine dl rfl (wn rfl) (O.buildSlice (l := [_]) rfl rfl hF Try.underlying64 inf3 rfl rfl (hF.evp rfl) (by decide) rfl hS fun b132 a w hF hS => ⟨fun hD => hS.sel [1, 3, 4, 5, 6] rfl rfl, ?_⟩)
                      have hD := hS.sel [1, 3, 4, 5, 6] rfl rfl
                      refine dl rfl (wn rfl) (O.append rfl rfl hF Try.underlying64 inf3 rfl rfl (by decide) (hF.ev rfl) (hF.ev rfl) hS hDd (fun _ => (.t (.t .h))) (Rd.own0 hS .h) rfl (by simp [Value.oneCell']) (by unfold maxLen; omega) (by omega) fun A133 c133 s133 a w hO133 hF hS => ⟨fun hD => hS.sel [1, 3, 4, 5, 6] rfl rfl, ?_⟩)
                      have hD := hS.sel [1, 3, 4, 5, 6] rfl rfl
                      rw [ixs_snoc] at hO133; rw [show d.l.length + 1 = (d.l ++ [p.index]).length from (by rw [List.length_append]; rfl)] at hF hO133
                      refine dq hF rfl (wn rfl) rfl rfl (fun w => R.indexS Try.underlying63 sz64 (hF.ev rfl) (hF.ev rfl) (by omega) (by omega)) fun a hF => ?_
                      refine dw rfl (wn rfl) (O.store sz64 (hF.ev rfl) (hF.ev rfl) rfl rfl hS (.t (.t (.t (.t (.t (.t .h)))))) (pdv_set (ds := ds2) (k := nn) (rest := rest6) (d := ⟨A133, c133, d.l ++ [p.index], s133⟩) (by omega) (by omega)) (by rw [List.length_append, length_pdv]; omega) fun w hS => ?_)
                      refine d0 ?_
                      refine blk_n ?_
                      have hS := hS.sel [1, 2, 3, 0, 4, 5, 6] rfl rfl
                      have hS := hS.join3 (by omega) (⟨A133, c133, d.l ++ [p.index], s133⟩) rfl
                      exact then_n (hK12' _ _ ⟨ps2, ds2.set nn ⟨A133, c133, d.l ++ [p.index], s133⟩, B5, f5, z5, some ⟨g6, 0, none⟩, f6, _, hF.sub ⟨rfl, rfl, (by rw [List.length_set]; rfl), rfl, trivial⟩, hS.sel [2, 0, 3, 4] rfl rfl, hPk2, hDk2.set hO133, hO52, (by rw [List.length_set]; exact OwnS.mk (by rw [length_pdv, List.length_set, Nat.mul_one]) o6a (by rw [List.length_append, length_pdv, List.length_set, ← length_pdv, ← List.length_append]; exact o6b) o6c), (by rw [List.length_set]; exact hl2), h162, hOn2.setD hq2 (once_snoc hOn2 hq2 hd2 hidx), (by intro x hx; rcases List.mem_or_eq_of_mem_set hx with h | rfl; exact Nat.le_succ_of_le (hDl2 x h); exact (by rw [List.length_append]; exact Nat.succ_le_succ (hDl2 d (List.mem_of_getElem? hd2))))⟩)
                    ·
                      refine wp_skip ?_
                      refine blk_n ?_
                      exact then_n (hK12' _ _ ⟨ps2, ds2, B5, f5, z5, B6, f6, z6, hF.sub ⟨rfl, rfl, rfl, rfl, trivial⟩, hS.sel [0, 1, 2, 3] rfl rfl, hPk2, hDk2, hO52, hO62, hl2, h162, hOn2, fun x hx => Nat.le_succ_of_le (hDl2 x hx)⟩)
          refine wp_seq_k fun K29 hK29 => ?_
          have hK29' : ∀ a w, (Fr 163 [(0, .slice A sts.length cap), (5, .slice A5 ps.length e5), (6, .slice A6 ds.length e6), (7, .int .i64 ((i : Nat) : Int)), (8, .int .i64 ((nn : Nat) : Int)), (10, .int .i64 (q.V.chg p).2), (11, .int .i64 (pickN p.what 11)), (66, .bool (decide (pickN p.what 11 = 7 ∧ ps.length < 6)))] a ∧ St w0 [] [flS Pv.sg ps1, flS Pd.sg ds, s5, s6] w) → K29 a w := by
            rintro a w ⟨hF, hS⟩
            refine hK29 _ _ ?_
            refine cD hF rfl (fun c3 => ?_) (fun c3 => ?_)
            ·
              refine wp_seq_k fun K30 hK30 => ?_
              refine wp_region_lit ?_
              refine sv' hF (wn rfl) rfl rfl (R.move (hF.ev rfl)) fun a hF => ?_
              refine sv' hF (wn rfl) rfl rfl (R.move (hF.ev rfl)) fun a hF => ?_
              refine sv' hF (wn rfl) rfl rfl (R.indexO Try.underlying57 sz24 (hF.ev rfl) (Rd.ne (hO5.rd hS (.t (.t .h))) (by rw [length_pptr]; omega)) (hF.ev rfl) (by omega) (by omega)) fun a hF => ?_
              refine sv' hF (wn rfl) rfl rfl (R.loadO one24 (hF.ev rfl) (hO5.rd hS (.t (.t .h))) (pptr_at hq (by omega))) fun a hF => ?_
              refine so (wn rfl) (O.call rfl rfl hF ent37 (hF.evs rfl) hS (copy_calls q.bv (q.V.chg p).1 s51 _ hV2 (hS.ownIn .h hq1)) fun v s71 a w hR hF hS => ?_)
              obtain ⟨bn, rfl, hVn⟩ := hR
              refine sv' hF (wn rfl) rfl rfl (R.assign (hF.ev rfl)) fun a hF => ?_
              refine s0 ?_
              refine then_n (hK30 _ _ ?_)
              refine wp_seq_k fun K31 hK31 => ?_
              refine wp_seq_k fun K32 hK32 => ?_
              refine wp_region_lit ?_
              refine sv' hF (wn rfl) rfl rfl (R.move (hF.ev rfl)) fun a hF => ?_
              refine sv' hF (wn rfl) rfl rfl (R.nilP (hF.ev rfl) (hF.ev rfl) Try.underlying24) fun a hF => ?_
              refine s0 ?_
              refine then_n (hK32 _ _ ?_)
              refine cF hF rfl ?_
              refine wp_skip ?_
              refine then_n (hK31 _ _ ?_)
              refine wp_seq_k fun K33 hK33 => ?_
              refine wp_region_lit ?_
              refine sv' hF (wn rfl) rfl rfl (R.move (hF.ev rfl)) fun a hF => ?_
              refine sv' hF (wn rfl) rfl rfl (R.move (hF.ev rfl)) fun a hF => ?_
              refine so (wn rfl) (O.buildSlice (l := [_]) rfl rfl hF Try.underlying57 inf24 rfl rfl (hF.evp rfl) (by decide) rfl hS fun b76 a w hF hS => ?_)
              refine so (wn rfl) (O.append rfl rfl hF Try.underlying57 inf24 rfl rfl (by decide) (hF.ev rfl) (hF.ev rfl) hS hO5 (fun _ => (.t (.t (.t (.t .h))))) (Rd.own0 hS .h) rfl (by simp [Value.oneCell']) (by unfold maxLen; omega) (by omega) fun A77 c77 s77 a w hO77 hF hS => ?_)
              refine sv' hF (wn rfl) rfl rfl (R.assign (hF.ev rfl)) fun a hF => ?_
              refine s0 ?_
              refine then_n (hK33 _ _ ?_)
              refine wp_region_lit ?_
              refine sv' hF (wn rfl) rfl rfl (R.move (hF.ev rfl)) fun a hF => ?_
              refine so (wn rfl) (O.buildSlice (l := []) rfl rfl hF Try.underlying64 inf3 rfl rfl (hF.evp rfl) (by decide) rfl hS fun b79 a w hF hS => ?_)
              refine sv' hF (wn rfl) rfl rfl (R.move (hF.ev rfl)) fun a hF => ?_
              refine sv' hF (wn rfl) rfl rfl (R.move (hF.ev rfl)) fun a hF => ?_
              refine sv' hF (wn rfl) rfl rfl (R.indexO Try.underlying63 sz64 (hF.ev rfl) (Rd.ne (hO6.rd hS (.t (.t (.t (.t (.t (.t .h))))))) (by rw [length_pdv]; omega)) (hF.ev rfl) (by omega) (by omega)) fun a hF => ?_
              refine sv' hF (wn rfl) rfl rfl (R.loadO one64 (hF.ev rfl) (hO6.rd hS (.t (.t (.t (.t (.t (.t .h))))))) (pdv_at hd (by omega))) fun a hF => ?_
              refine so (wn rfl) (O.appendO rfl rfl hF Try.underlying64 inf3 rfl rfl (by decide) (hF.ev rfl) (hF.ev rfl) hS (own_nil3 b79) (fun _ => .h) (hDd.rdW (hS.ownIn (.t (.t (.t (.t .h)))) hd)) (by rw [length_ixs, Nat.mul_one]) (ixs_one _) (by unfold maxLen; omega) (by omega) fun A84 c84 s84 a w hO84 hF hS => ?_)
              rw [Nat.zero_add] at hF hO84
              refine so (wn rfl) (O.buildSlice (l := [_]) rfl rfl hF Try.underlying63 inf64 rfl rfl (hF.evp rfl) (by decide) rfl hS fun b85 a w hF hS => ?_)
              refine so (wn rfl) (O.append rfl rfl hF Try.underlying63 inf64 rfl rfl (by decide) (hF.ev rfl) (hF.ev rfl) hS hO6 (fun _ => (.t (.t (.t (.t (.t (.t (.t .h)))))))) (Rd.own0 hS .h) rfl (by simp [Value.oneCell']) (by unfold maxLen; omega) (by omega) fun A86 c86 s86 a w hO86 hF hS => ?_)
              refine sv' hF (wn rfl) rfl rfl (R.assign (hF.ev rfl)) fun a hF => ?_
              refine s0 ?_
              have hS := hS.sel [4, 3, 0, 1, 2, 5, 6, 7] rfl rfl
              have hS := hS.join2 (⟨bn, (q.V.chg p).1, s71⟩) rfl
              have hS := hS.sel [4, 2, 0, 1, 3, 5, 6] rfl rfl
              have hS := hS.join2 (⟨A84, c84, d.l, s84⟩) rfl
              exact then_n (hK16' _ _ ⟨ps1 ++ [⟨bn, (q.V.chg p).1, s71⟩], ds ++ [⟨A84, c84, d.l, s84⟩], A77, c77, s77, A86, c86, s86, hF.sub ⟨rfl, (by rw [List.length_append, List.length_singleton, hl1]; rfl), (by rw [List.length_append, List.length_singleton]; rfl), rfl, rfl, rfl, rfl, trivial⟩, hS.sel [1, 0, 4, 5] rfl rfl, hPk1.snoc hVn, hDk.snoc hO84, (by rw [List.length_append, List.length_singleton, hl1, pptr_snoc, hpp1]; exact hO77), (by rw [List.length_append, List.length_singleton, pdv_snoc]; exact hO86), (by rw [List.length_append, List.length_append, hl1, hl]; rfl), (by rw [List.length_append, List.length_singleton]; omega), hOn1.snoc (by rw [hl1]; exact hl) (fun x hx => paid_mono q.V p x (hOn nn q d hq hd x hx)), (by intro x hx; rcases List.mem_append.1 hx with h | h; exact hDl x h; rw [List.mem_singleton.1 h]; exact hDl d (List.mem_of_getElem? hd)), ⟨_, by rw [List.getElem?_append_left (by omega)]; exact hq1, rfl⟩, (by rw [List.getElem?_append_left (by omega)]; exact hd)⟩)
            ·
              refine wp_skip ?_
              exact then_n (hK16' _ _ ⟨ps1, ds, A5, e5, s5, A6, e6, s6, hF.sub ⟨rfl, (by rw [hl1]; rfl), rfl, rfl, rfl, rfl, rfl, trivial⟩, hS.sel [0, 1, 2, 3] rfl rfl, hPk1, hDk, (by rw [hl1, hpp1]; exact hO5), hO6, (by rw [hl1]; exact hl), (by omega), hOn1, hDl, ⟨_, hq1, rfl⟩, hd⟩)
          refine wp_region_lit ?_
          refine sv' hF (wn rfl) rfl rfl (R.move (hF.ev rfl)) fun a hF => ?_
          refine sv' hF (wn rfl) rfl rfl (R.eql (hF.ev rfl) (hF.ev rfl)) fun a hF => ?_
          refine sv' hF (wn rfl) rfl rfl (R.move (hF.ev rfl)) fun a hF => ?_
          refine hF.splitD (t := 62) rfl (fun h62 hF => ?_) (fun h62 hF => ?_)
          ·
            refine sv' hF (wy hF rfl rfl rfl) rfl rfl (R.move (hF.ev rfl)) fun a hF => ?_
            refine sv' hF (wy hF rfl rfl rfl) rfl rfl (R.len Try.underlying57 (hF.ev rfl)) fun a hF => ?_
            refine sv' hF (wy hF rfl rfl rfl) rfl rfl (R.lss (hF.ev rfl) (hF.ev rfl)) fun a hF => ?_
            refine sv' hF (wn rfl) rfl rfl (R.pickT (hF.ev rfl) (hF.ev rfl)) fun a hF => ?_
            refine s0 ?_
            exact then_n (hK29' _ _ ⟨hF.sub ⟨rfl, rfl, rfl, rfl, rfl, rfl, rfl, (congrArg (fun z => some (Value.bool z)) (by first | exact (decide_eq_true (by omega)).symm | exact (decide_eq_false (by omega)).symm | exact decide_eq_decide.2 (by omega))), trivial⟩, hS.sel [1, 3, 4, 5] rfl rfl⟩)
          ·
            refine sk hF (ws hF rfl rfl rfl rfl) rfl rfl fun a hF => ?_
            refine sk hF (ws hF rfl rfl rfl rfl) rfl rfl fun a hF => ?_
            refine sk hF (ws hF rfl rfl rfl rfl) rfl rfl fun a hF => ?_
            refine sv' hF (wn rfl) rfl rfl (R.pickF (hF.ev rfl) (hF.ev rfl)) fun a hF => ?_
            refine s0 ?_
            exact then_n (hK29' _ _ ⟨hF.sub ⟨rfl, rfl, rfl, rfl, rfl, rfl, rfl, (congrArg (fun z => some (Value.bool z)) (by first | exact (decide_eq_true (by omega)).symm | exact (decide_eq_false (by omega)).symm | exact decide_eq_decide.2 (by omega))), trivial⟩, hS.sel [1, 3, 4, 5] rfl rfl⟩)
        ·
          refine wp_exit (then_x (then_x (blk_hit ?_)))
          refine then_n (hK8 _ _ ?_)
          refine wp_seq_k fun K34 hK34 => ?_
          refine wp_seq_k fun K35 hK35 => ?_
          refine wp_region_lit ?_
          refine sv' hF (wn rfl) rfl rfl (R.assign (hF.ev rfl)) fun a hF => ?_
          refine s0 ?_
          refine then_n (hK35 _ _ ?_)
          refine wp_block ?_
          refine wp_loop_N (fun g a w => ∃ (m : Nat), ps.length - m = g ∧ Fr 163 [(5, .slice A5 ps.length e5), (6, .slice A6 ds.length e6), (15, .int .i64 ((m : Nat) : Int))] a ∧ St w0 [] [flS Pv.sg ps, flS Pd.sg ds, s5, s6] w ∧ (m ≤ ps.length)) (ps.length - 0) ?_ ?_
          · exact ⟨0, rfl, hF.sub ⟨rfl, rfl, rfl, trivial⟩, hS.sel [0, 1, 2, 3] rfl rfl, by omega⟩
          · rintro KL3 g a w ⟨m, hg3, hF, hS, hm⟩ hKL3
            refine wp_seq_k fun K36 hK36 => ?_
            refine wp_seq_k fun K37 hK37 => ?_
            refine wp_region_lit ?_
            refine sv' hF (wn rfl) rfl rfl (R.move (hF.ev rfl)) fun a hF => ?_
            refine sv' hF (wn rfl) rfl rfl (R.move (hF.ev rfl)) fun a hF => ?_
            refine sv' hF (wn rfl) rfl rfl (R.len Try.underlying57 (hF.ev rfl)) fun a hF => ?_
            refine sv' hF (wn rfl) rfl rfl (R.lss (hF.ev rfl) (hF.ev rfl)) fun a hF => ?_
            refine s0 ?_
            refine then_n (hK37 _ _ ?_)
            refine cD hF rfl (fun c9 => ?_) (fun c9 => ?_)
            ·
              obtain ⟨q, hq⟩ : ∃ q, ps[m]? = some q := ⟨_, List.getElem?_eq_getElem (by omega)⟩
              obtain ⟨d, hd⟩ : ∃ d, ds[m]? = some d := ⟨_, List.getElem?_eq_getElem (by omega)⟩
              have hV := hPk q (List.mem_of_getElem? hq)
              have hDd := hDk d (List.mem_of_getElem? hd)
              have hdl := hDl d (List.mem_of_getElem? hd)
              refine wp_skip ?_
              refine then_n (hK36 _ _ ?_)
              refine wp_seq_k fun K38 hK38 => ?_
              refine wp_block ?_
              refine wp_seq_k fun K39 hK39 => ?_
              refine wp_region_lit ?_
              refine sv' hF (wn rfl) rfl rfl (R.assign (hF.ev rfl)) fun a hF => ?_
              refine s0 ?_
              refine then_n (hK39 _ _ ?_)
              refine wp_block ?_
              refine wp_loop_N (fun g a w => ∃ (j : Nat), d.l.length - j = g ∧ Fr 163 [(5, .slice A5 ps.length e5), (6, .slice A6 ds.length e6), (15, .int .i64 ((m : Nat) : Int)), (16, .int .i64 ((j : Nat) : Int))] a ∧ St w0 [] [flS Pv.sg ps, flS Pd.sg ds, s5, s6] w ∧ (j ≤ d.l.length)) (d.l.length - 0) ?_ ?_
              · exact ⟨0, rfl, hF.sub ⟨rfl, rfl, rfl, rfl, trivial⟩, hS.sel [0, 1, 2, 3] rfl rfl, by omega⟩
              · rintro KL4 g a w ⟨j, hg4, hF, hS, hj⟩ hKL4
                refine wp_seq_k fun K40 hK40 => ?_
                refine wp_seq_k fun K41 hK41 => ?_
                refine wp_region_lit ?_
                refine sv' hF (wn rfl) rfl rfl (R.move (hF.ev rfl)) fun a hF => ?_
                refine sv' hF (wn rfl) rfl rfl (R.move (hF.ev rfl)) fun a hF => ?_
                refine sv' hF (wn rfl) rfl rfl (R.move (hF.ev rfl)) fun a hF => ?_
                refine sv' hF (wn rfl) rfl rfl (R.indexO Try.underlying63 sz64 (hF.ev rfl) (Rd.ne (hO6.rd hS (.t (.t (.t .h)))) (by rw [length_pdv]; omega)) (hF.ev rfl) (by omega) (by omega)) fun a hF => ?_
                refine sv' hF (wn rfl) rfl rfl (R.loadO one64 (hF.ev rfl) (hO6.rd hS (.t (.t (.t .h)))) (pdv_at hd (by omega))) fun a hF => ?_
                refine sv' hF (wn rfl) rfl rfl (R.len Try.underlying64 (hF.ev rfl)) fun a hF => ?_
                refine sv' hF (wn rfl) rfl rfl (R.lss (hF.ev rfl) (hF.ev rfl)) fun a hF => ?_
                refine s0 ?_
                refine then_n (hK41 _ _ ?_)
                refine cD hF rfl (fun c12 => ?_) (fun c12 => ?_)
                ·
                  refine wp_skip ?_
                  refine then_n (hK40 _ _ ?_)
                  refine wp_seq_k fun K42 hK42 => ?_
                  refine wp_block ?_
                  refine wp_seq_k fun K43 hK43 => ?_
                  refine wp_drawS hS [(0, 0), (1, 0), (2, 0), (3, 1), (4, 0), (5, 0), (6, 0), (7, 1), (8, 0), (9, 0), (10, 1), (11, 2), (12, 0)] mix (by kernel_rfl) (hP.then.block.then.then.block.block.then.then.block.then) fun w hS => ?_
                  have hD := hS
                  refine dq hF rfl (wn rfl) rfl rfl (fun w => R.move (hF.ev rfl)) fun a hF => ?_
                  refine dq hF rfl (wn rfl) rfl rfl (fun w => R.move (hF.ev rfl)) fun a hF => ?_
                  refine dq hF rfl (wn rfl) rfl rfl (fun w => R.indexO Try.underlying57 sz24 (hF.ev rfl) (Rd.ne (hO5.rd hS (.t (.t .h))) (by rw [length_pptr]; omega)) (hF.ev rfl) (by omega) (by omega)) fun a hF => ?_
                  refine dr hF rfl (wn rfl) rfl rfl hD (fun w hD => R.loadO one24 (hF.ev rfl) (hO5.rd hD (.t (.t .h))) (pptr_at hq (by omega))) fun a hF => ?_
                  refine dq hF rfl (wn rfl) rfl rfl (fun w => R.move (hF.ev rfl)) fun a hF => ?_
                  refine dq hF rfl (wn rfl) rfl rfl (fun w => R.move (hF.ev rfl)) fun a hF => ?_
                  refine dq hF rfl (wn rfl) rfl rfl (fun w => R.indexO Try.underlying63 sz64 (hF.ev rfl) (Rd.ne (hO6.rd hS (.t (.t (.t .h)))) (by rw [length_pdv]; omega)) (hF.ev rfl) (by omega) (by omega)) fun a hF => ?_
                  refine dr hF rfl (wn rfl) rfl rfl hD (fun w hD => R.loadO one64 (hF.ev rfl) (hO6.rd hD (.t (.t (.t .h)))) (pdv_at hd (by omega))) fun a hF => ?_
                  refine dq hF rfl (wn rfl) rfl rfl (fun w => R.move (hF.ev rfl)) fun a hF => ?_
                  refine dq hF rfl (wn rfl) rfl rfl (fun w => R.indexO Try.underlying64 sz3 (hF.ev rfl) (Rd.ne (hDd.rdW (St.ownIn hS (.t .h) hd)) (by rw [length_ixs]; omega)) (hF.ev rfl) (by omega) (by omega)) fun a hF => ?_
                  refine dr hF rfl (wn rfl) rfl rfl hD (fun w hD => R.loadO one3 (hF.ev rfl) (hDd.rdW (St.ownIn hD (.t .h) hd)) (ixs_at (l := d.l) (k := j) (by omega) (by omega))) fun a hF => ?_
                  refine dl rfl (wn rfl) (O.call rfl rfl hF ent27 (hF.evs rfl) hS (Ret.quiet (paid_calls q.bv q.V (d.l.getD j 0) q.sg _ hV (hS.ownIn .h hq)) (hS.ownIn .h hq)) fun v s161 a w hR hF hS => ⟨fun hD => hS.tail, ?_⟩)
                  obtain ⟨rfl, rfl⟩ := hR
                  have hD := hS.tail
                  refine dq hF rfl (wn rfl) rfl rfl (fun w => R.as (u := .bool false) (R.not (b := q.V.paid (d.l.getD j 0)) (hF.ev rfl)) (congrArg Value.bool (by rw [hOn m q d hq hd _ (getD_mem (by omega))]; rfl))) fun a hF => ?_
                  refine d0 ?_
                  refine then_n (hK43 _ _ ?_)
                  refine cF hF rfl ?_
                  refine wp_skip ?_
                  refine blk_n ?_
                  refine then_n (hK42 _ _ ?_)
                  refine wp_region_lit ?_
                  refine sv' hF (wn rfl) rfl rfl (R.move (hF.ev rfl)) fun a hF => ?_
                  refine sv' hF (wn rfl) rfl rfl (R.addI (hF.ev rfl) (hF.ev rfl) (by omega)) fun a hF => ?_
                  refine sv' hF (wn rfl) rfl rfl (R.assign (hF.ev rfl)) fun a hF => ?_
                  refine s0 ?_
                  refine then_n (hKL4 (d.l.length - (j + 1)) _ _ ?_ ?_)
                  · omega
                  · exact ⟨j + 1, rfl, hF.sub ⟨rfl, rfl, rfl, rfl, trivial⟩, hS.sel [1, 2, 3, 4] rfl rfl, by omega⟩
                ·
                  refine wp_exit (then_x (then_x (blk_hit ?_)))
                  refine blk_n ?_
                  refine then_n (hK38 _ _ ?_)
                  refine wp_region_lit ?_
                  refine sv' hF (wn rfl) rfl rfl (R.move (hF.ev rfl)) fun a hF => ?_
                  refine sv' hF (wn rfl) rfl rfl (R.addI (hF.ev rfl) (hF.ev rfl) (by omega)) fun a hF => ?_
                  refine sv' hF (wn rfl) rfl rfl (R.assign (hF.ev rfl)) fun a hF => ?_
                  refine s0 ?_
                  refine then_n (hKL3 (ps.length - (m + 1)) _ _ ?_ ?_)
                  · omega
                  · exact ⟨m + 1, rfl, hF.sub ⟨rfl, rfl, rfl, trivial⟩, hS.sel [0, 1, 2, 3] rfl rfl, by omega⟩
            ·
              refine wp_exit (then_x (then_x (blk_hit ?_)))
              refine then_n (hK34 _ _ ?_)
              refine wp_seq_k fun K44 hK44 => ?_
              refine wp_region_lit ?_
              refine sv' hF (wn rfl) rfl rfl (R.assign (hF.ev rfl)) fun a hF => ?_
              refine s0 ?_
              refine then_n (hK44 _ _ ?_)
              refine wp_ret (hR _ _ _ _ _ hF (run_results Try.results7 (.t hF rfl (.nil))) ?_)
              exact ⟨_, [], rfl, ⟨rfl, rfl⟩, hS.none⟩

end Go.Proofs.Ythgecfjpacebeaa
