/- The calls of EscrowPlays. -/
import Derived.Test.YthgecfjpacebeaaAl
namespace Go.Proofs.Ythgecfjpacebeaa
open Go Go.Fw Go.RowKit
attribute [local irreducible] Go.Oper.wp Go.Code.wp Go.wpList Go.Fw.WL Go.Calls
structure Rv where
  rb : Nat
  l : List Ac
  sg : Seg
def rptr (rs : List Rv) : List Value := rs.map fun r => .pointer (some ⟨r.rb, 0, none⟩)
def RefOk (rs : List Rv) : Prop := ∀ r ∈ rs, RefS r.rb r.l r.sg ∧ AcsOk r.l
def SimAll (ps : List Pv) (rs : List Rv) : Prop := ∀ (k : Nat) (p : Pv) (r : Rv), ps[k]? = some p → rs[k]? = some r → Sim p.V r.l
theorem length_rptr (rs : List Rv) : (rptr rs).length = rs.length := by simp [rptr]
theorem rptr_at {rs : List Rv} {k off : Nat} {r : Rv} (h : rs[k]? = some r) (ho : off = k) : (rptr rs)[off]? = some (.pointer (some ⟨r.rb, 0, none⟩)) := by subst ho; simp [rptr, h]
theorem rptr_set {rs : List Rv} {k : Nat} {p q : Rv} (h : rs[k]? = some p) (hb : q.rb = p.rb) : rptr (rs.set k q) = rptr rs := by
  apply List.ext_getElem?
  intro j
  simp only [rptr, List.getElem?_map, List.getElem?_set]
  by_cases e : k = j
  · subst e
    obtain ⟨h1, h2⟩ := List.getElem?_eq_some_iff.1 h
    simp [h1, h2, hb]
  · simp [e]
theorem rptr_snoc (rs : List Rv) (q : Rv) : rptr (rs ++ [q]) = rptr rs ++ [.pointer (some ⟨q.rb, 0, none⟩)] := by simp [rptr]
theorem pptr_snoc' (ps : List Pv) (q : Pv) : pptr (ps ++ [q]) = pptr ps ++ [.pointer (some ⟨q.bv, 0, none⟩)] := by simp [pptr]
theorem RefOk.set {rs : List Rv} {k : Nat} {q : Rv} (h : RefOk rs) (hq : RefS q.rb q.l q.sg) (ha : AcsOk q.l) : RefOk (rs.set k q) := by
  intro p hp
  rcases List.mem_or_eq_of_mem_set hp with h1 | rfl
  · exact h p h1
  · exact ⟨hq, ha⟩
theorem RefOk.snoc {rs : List Rv} {q : Rv} (h : RefOk rs) (hq : RefS q.rb q.l q.sg) (ha : AcsOk q.l) : RefOk (rs ++ [q]) := by
  intro p hp
  rcases List.mem_append.1 hp with h1 | h1
  · exact h p h1
  · rw [List.mem_singleton.1 h1]; exact ⟨hq, ha⟩
theorem SimAll.set {ps : List Pv} {rs : List Rv} {k : Nat} {p : Pv} {r : Rv} (h : SimAll ps rs) (hs : Sim p.V r.l) : SimAll (ps.set k p) (rs.set k r) := by
  intro j p' r' hj hr
  rw [List.getElem?_set] at hj hr
  by_cases e : k = j
  · subst e
    rw [if_pos rfl] at hj hr
    split at hj
    · split at hr
      · simp only [Option.some.injEq] at hj hr
        subst hj; subst hr; exact hs
      · simp at hr
    · simp at hj
  · rw [if_neg e] at hj hr; exact h j p' r' hj hr
theorem SimAll.snoc {ps : List Pv} {rs : List Rv} {p : Pv} {r : Rv} (h : SimAll ps rs) (hl : ps.length = rs.length) (hs : Sim p.V r.l) : SimAll (ps ++ [p]) (rs ++ [r]) := by
  intro j p' r' hj hr
  by_cases e : j < ps.length
  · rw [List.getElem?_append_left e] at hj
    rw [List.getElem?_append_left (by omega)] at hr
    exact h j p' r' hj hr
  · have e2 : j = ps.length := by
      have := (List.getElem?_eq_some_iff.1 hj).1
      simp at this; omega
    subst e2
    rw [List.getElem?_append_right (by omega), Nat.sub_self] at hj
    rw [hl, List.getElem?_append_right (by omega), Nat.sub_self] at hr
    simp only [List.getElem?_cons_zero, Option.some.injEq] at hj hr
    subst hj; subst hr; exact hs
theorem own_oneP (b : Nat) (v : Value) : OwnS [(b, Cel [v] 24)] (some ⟨b, 0, none⟩) 1 1 [v] 24 1 := OwnS.mk (cells := [v]) (rest := []) rfl (by decide) rfl (by decide)
theorem own_oneR (b : Nat) (v : Value) : OwnS [(b, Cel [v] 58)] (some ⟨b, 0, none⟩) 1 1 [v] 58 1 := OwnS.mk (cells := [v]) (rest := []) rfl (by decide) rfl (by decide)

theorem escrowPlays_calls (A : Option Addr) (cap : Nat) (sts : List Stp) (w0 : World) (hA : Rd w0 A (sts.flatMap stpL)) (hok : ∀ p ∈ sts, p.ok) (hc : sts.length ≤ cap) (hcap : cap * 64 ≤ 140737488351232) : Ret Try.prog 6 [.slice A sts.length cap] w0 [] (fun v s => v = .bool true ∧ s = []) := by
  refine fn_start Try.func6 rfl Try.ntmps6 rfl [(0, .slice A sts.length cap)] ⟨rfl, trivial⟩ ?_
  intro Q a hP hF hR hN
  have hS := St.start w0
  refine wp_seq_k fun K1 hK1 => ?_
  refine wp_region_lit ?_
  refine sv' hF (wn rfl) rfl rfl (R.assign (hF.ev rfl)) fun a hF => ?_
  refine s0 ?_
  refine then_n (hK1 _ _ ?_)
  refine wp_seq_k fun K2 hK2 => ?_
  refine wp_region_lit ?_
  refine so (wn rfl) (O.call rfl rfl hF ent18 (hF.evs rfl) hS (known_calls _) fun v s16 a w hR hF hS => ?_)
  obtain ⟨rfl, rfl⟩ := hR
  refine sv' hF (wn rfl) rfl rfl (R.assign (hF.ev rfl)) fun a hF => ?_
  refine s0 ?_
  refine then_n (hK2 _ _ ?_)
  refine wp_seq_k fun K3 hK3 => ?_
  refine wp_region_lit ?_
  refine so (wn rfl) (O.call rfl rfl hF ent19 (hF.evs rfl) hS (new_calls _) fun v s17 a w hR hF hS => ?_)
  obtain ⟨bv, rfl, hV⟩ := hR
  refine sv' hF (wn rfl) rfl rfl (R.assign (hF.ev rfl)) fun a hF => ?_
  refine s0 ?_
  refine then_n (hK3 _ _ ?_)
  refine wp_seq_k fun K4 hK4 => ?_
  refine wp_seq_k fun K5 hK5 => ?_
  refine wp_region_lit ?_
  refine sv' hF (wn rfl) rfl rfl (R.move (hF.ev rfl)) fun a hF => ?_
  refine sv' hF (wn rfl) rfl rfl ((by first | exact R.notD (hF.ev rfl) | exact R.not (hF.ev rfl))) fun a hF => ?_
  refine sv' hF (wn rfl) rfl rfl (R.move (hF.ev rfl)) fun a hF => ?_
  refine hF.splitB (t := 20) rfl (fun h20 hF => ?_) (fun h20 hF => ?_)
  ·
    exact absurd h20 (by decide)
  ·
    refine sv' hF (wy hF rfl rfl rfl) rfl rfl (R.move (hF.ev rfl)) fun a hF => ?_
    refine sv' hF (wy hF rfl rfl rfl) rfl rfl (R.nilP (hF.ev rfl) (hF.ev rfl) Try.underlying24) fun a hF => ?_
    refine sv' hF (wn rfl) rfl rfl (R.pickF (hF.ev rfl) (hF.ev rfl)) fun a hF => ?_
    refine s0 ?_
    refine then_n (hK5 _ _ ?_)
    refine cS hF rfl (fun c1 => ?_) (fun c1 => ?_)
    ·
      exact absurd c1 (by decide)
    ·
      refine wp_skip ?_
      refine then_n (hK4 _ _ ?_)
      refine wp_seq_k fun K6 hK6 => ?_
      refine wp_region_lit ?_
      refine sv' hF (wn rfl) rfl rfl (R.move (hF.ev rfl)) fun a hF => ?_
      refine so (wn rfl) (O.buildSlice (l := [_]) rfl rfl hF Try.underlying57 inf24 rfl rfl (hF.evp rfl) (by decide) rfl hS fun b25 a w hF hS => ?_)
      refine sv' hF (wn rfl) rfl rfl (R.assign (hF.ev rfl)) fun a hF => ?_
      refine s0 ?_
      refine then_n (hK6 _ _ ?_)
      refine wp_seq_k fun K7 hK7 => ?_
      refine wp_region_lit ?_
      refine so (wn rfl) (O.call rfl rfl hF ent35 (hF.evs rfl) hS (rNew_calls _) fun v s26 a w hR hF hS => ?_)
      obtain ⟨rb, rfl, hRr⟩ := hR
      refine so (wn rfl) (O.buildSlice (l := [_]) rfl rfl hF Try.underlying60 inf58 rfl rfl (hF.evp rfl) (by decide) rfl hS fun b27 a w hF hS => ?_)
      refine sv' hF (wn rfl) rfl rfl (R.assign (hF.ev rfl)) fun a hF => ?_
      refine s0 ?_
      refine then_n (hK7 _ _ ?_)
      refine wp_seq_k fun K8 hK8 => ?_
      refine wp_seq_k fun K9 hK9 => ?_
      have hS := hS.sel [3, 0, 1, 2, 4] rfl rfl
      have hS := hS.first (f := Pv.sg) ⟨bv, Vau.new, s17⟩ rfl
      have hS := hS.sel [2, 0, 1, 3, 4] rfl rfl
      have hS := hS.first (f := Rv.sg) ⟨rb, [], s26⟩ rfl
      refine wp_region_lit ?_
      refine sv' hF (wn rfl) rfl rfl (R.assign (hF.ev rfl)) fun a hF => ?_
      refine s0 ?_
      refine then_n (hK9 _ _ ?_)
      refine wp_block ?_
      refine wp_loop_N (fun g a w => ∃ (i : Nat) (ps : List Pv) (rs : List Rv) (A5 : Option Addr) (e5 : Nat) (s5 : Seg) (A6 : Option Addr) (e6 : Nat) (s6 : Seg), sts.length - i = g ∧ Fr 154 [(0, .slice A sts.length cap), (5, .slice A5 ps.length e5), (6, .slice A6 rs.length e6), (7, .int .i64 ((i : Nat) : Int))] a ∧ St w0 [] [flS Pv.sg ps, flS Rv.sg rs, s5, s6] w ∧ (i ≤ sts.length) ∧ (PoolOk ps) ∧ (RefOk rs) ∧ (OwnS s5 A5 ps.length e5 (pptr ps) 24 1) ∧ (OwnS s6 A6 rs.length e6 (rptr rs) 58 1) ∧ (ps.length = rs.length) ∧ (0 < ps.length ∧ ps.length ≤ 6) ∧ (SimAll ps rs) ∧ (∀ r ∈ rs, r.l.length ≤ i)) (sts.length - 0) ?_ ?_
      · exact ⟨0, [⟨bv, Vau.new, s17⟩], [⟨rb, [], s26⟩], some ⟨b25, 0, none⟩, 1, [(b25, Cel [.pointer (some ⟨bv, 0, none⟩)] 24)], some ⟨b27, 0, none⟩, 1, [(b27, Cel [.pointer (some ⟨rb, 0, none⟩)] 58)], rfl, hF.sub ⟨rfl, rfl, rfl, rfl, trivial⟩, hS.sel [1, 0, 3, 2] rfl rfl, by omega, (by intro x hx; rw [List.mem_singleton.1 hx]; exact hV), (by intro x hx; rw [List.mem_singleton.1 hx]; exact ⟨hRr, by intro y hy; simp at hy⟩), own_oneP b25 _, own_oneR b27 _, rfl, ⟨by simp, by simp⟩, (by intro k x y hx hy; rcases k with _ | k <;> simp at hx hy; subst hx; subst hy; exact Sim.new), (by intro x hx; rw [List.mem_singleton.1 hx]; exact Nat.le_refl 0)⟩
      · rintro KL1 g a w ⟨i, ps, rs, A5, e5, s5, A6, e6, s6, hg1, hF, hS, hi, hPk, hRk, hO5, hO6, hl, h16, hSm, hRl⟩ hKL1
        refine wp_seq_k fun K10 hK10 => ?_
        refine wp_seq_k fun K11 hK11 => ?_
        refine wp_region_lit ?_
        refine sv' hF (wn rfl) rfl rfl (R.move (hF.ev rfl)) fun a hF => ?_
        refine sv' hF (wn rfl) rfl rfl (R.move (hF.ev rfl)) fun a hF => ?_
        refine sv' hF (wn rfl) rfl rfl (R.len Try.underlying22 (hF.ev rfl)) fun a hF => ?_
        refine sv' hF (wn rfl) rfl rfl (R.lss (hF.ev rfl) (hF.ev rfl)) fun a hF => ?_
        refine s0 ?_
        refine then_n (hK11 _ _ ?_)
        refine cD hF rfl (fun c2 => ?_) (fun c2 => ?_)
        ·
          obtain ⟨p, hp⟩ : ∃ p, sts[i]? = some p := ⟨_, List.getElem?_eq_getElem (by omega)⟩
          have hpo := hok p (List.mem_of_getElem? hp)
          refine wp_skip ?_
          refine then_n (hK10 _ _ ?_)
          refine wp_seq_k fun K12 hK12 => ?_
          refine wp_block ?_
          refine wp_seq_k fun K13 hK13 => ?_
          refine wp_region_lit ?_
          refine sv' hF (wn rfl) rfl rfl (R.move (hF.ev rfl)) fun a hF => ?_
          refine sv' hF (wn rfl) rfl rfl (R.move (hF.ev rfl)) fun a hF => ?_
          refine sv' hF (wn rfl) rfl rfl (R.indexO Try.underlying22 sz34 (hF.ev rfl) (stp_ne (hA.old hS) hp) (hF.ev rfl) (by omega) (by omega)) fun a hF => ?_
          refine sv' hF (wn rfl) rfl rfl (R.fieldAddrO (m := 0) Try.underlying34 rfl nz3 (hF.ev rfl) (stp_ne (hA.old hS) hp) rfl) fun a hF => ?_
          refine sv' hF (wn rfl) rfl rfl (R.loadO one3 (hF.ev rfl) (hA.old hS) (stp_at hp rfl)) fun a hF => ?_
          refine sv' hF (wn rfl) rfl rfl (R.move (hF.ev rfl)) fun a hF => ?_
          refine sv' hF (wn rfl) rfl rfl (R.len Try.underlying57 (hF.ev rfl)) fun a hF => ?_
          refine so (wn rfl) (O.call rfl rfl hF ent21 (hF.evs rfl) hS (pick_calls p.which (ps.length : Int) _ hpo.which (by omega) (by omega)) fun v s41 a w hR hF hS => ?_)
          obtain ⟨rfl, rfl⟩ := hR
          have g0 := pickN_0 p.which (n := (ps.length : Int)) (by omega); have g1 := pickN_lt p.which (n := (ps.length : Int)) (by omega); obtain ⟨nn, hnn⟩ : ∃ k : Nat, pickN p.which (ps.length : Int) = (k : Int) := ⟨(pickN p.which (ps.length : Int)).toNat, (Int.toNat_of_nonneg g0).symm⟩; rw [hnn] at hF g1; clear g0 hnn; have hlt : nn < ps.length := (by omega); obtain ⟨q, hq⟩ : ∃ q, ps[nn]? = some q := ⟨_, List.getElem?_eq_getElem hlt⟩; obtain ⟨r, hr⟩ : ∃ r, rs[nn]? = some r := ⟨_, List.getElem?_eq_getElem (by omega)⟩; have hV := hPk q (List.mem_of_getElem? hq); obtain ⟨hRr, hac⟩ := hRk r (List.mem_of_getElem? hr); have hrl := hRl r (List.mem_of_getElem? hr); have hsim := (hSm nn q r hq hr).chg p
          refine sv' hF (wn rfl) rfl rfl (R.assign (hF.ev rfl)) fun a hF => ?_
          refine s0 ?_
          refine then_n (hK13 _ _ ?_)
          refine wp_seq_k fun K14 hK14 => ?_
          have hS := hS.sel [1, 0, 2, 3, 4] rfl rfl
          have hS := hS.cut3 hq
          refine wp_drawS hS [(0, 0), (1, 0), (2, 0), (3, 1), (4, 0), (5, 0), (6, 0), (7, 1), (8, 3), (9, 0), (10, 0), (11, 0), (12, 0), (13, 0)] mix (by kernel_rfl) (hP.then.block.then.then.block.then) fun w hS => ?_
          have hD := hS
          refine dq hF rfl (wn rfl) rfl rfl (fun w => R.move (hF.ev rfl)) fun a hF => ?_
          refine dq hF rfl (wn rfl) rfl rfl (fun w => R.move (hF.ev rfl)) fun a hF => ?_
          refine dq hF rfl (wn rfl) rfl rfl (fun w => R.indexO Try.underlying57 sz24 (hF.ev rfl) (Rd.ne (hO5.rd hS (.t (.t (.t (.t (.t .h)))))) (by rw [length_pptr]; omega)) (hF.ev rfl) (by omega) (by omega)) fun a hF => ?_
          refine dr hF rfl (wn rfl) rfl rfl hD (fun w hD => R.loadO one24 (hF.ev rfl) (hO5.rd hD (.t (.t (.t (.t (.t .h)))))) (pptr_at hq (by omega))) fun a hF => ?_
          refine dq hF rfl (wn rfl) rfl rfl (fun w => R.move (hF.ev rfl)) fun a hF => ?_
          refine dq hF rfl (wn rfl) rfl rfl (fun w => R.move (hF.ev rfl)) fun a hF => ?_
          refine dq hF rfl (wn rfl) rfl rfl (fun w => R.indexO Try.underlying22 sz34 (hF.ev rfl) (stp_ne (hA.old hS) hp) (hF.ev rfl) (by omega) (by omega)) fun a hF => ?_
          refine dr hF rfl (wn rfl) rfl rfl hD (fun w hD => R.loadAO (cs := stpL p) agg34 (hF.ev rfl) (hA.old hD) sz34 rfl (Nat.succ_pos _) (fun j v h => stp_at hp h)) fun a hF => ?_
          refine dw rfl (wn rfl) (O.callK rfl rfl hF ent20 (hF.evs rfl) hS (changing_calls q.bv q.V p q.sg _ hV (hS.own1 (.t .h)) hpo) (fun _ => (.t .h)) fun v s51 a w hR hF hS => ?_)
          obtain ⟨bb, rfl, hV2⟩ := hR
          refine dq hF rfl (wn rfl) rfl rfl (fun w => R.move (hF.ev rfl)) fun a hF => ?_
          refine dq hF rfl (wn rfl) rfl rfl (fun w => R.extract (hF.ev rfl) rfl) fun a hF => ?_
          refine dq hF rfl (wn rfl) rfl rfl (fun w => R.extract (hF.ev rfl) rfl) fun a hF => ?_
          refine dq hF rfl (wn rfl) rfl rfl (fun w => R.assign (hF.ev rfl)) fun a hF => ?_
          refine dq hF rfl (wn rfl) rfl rfl (fun w => R.assign (hF.ev rfl)) fun a hF => ?_
          refine d0 ?_
          refine then_n (hK14 _ _ ?_)
          refine wp_seq_k fun K15 hK15 => ?_
          have hS := hS.sel [0, 1, 2, 3, 4, 5, 6] rfl rfl
          have hS := hS.join3 hlt (⟨q.bv, (q.V.chg p).1, s51⟩) rfl
          have hS := hS.sel [2, 0, 1, 3, 4] rfl rfl
          have hS := hS.cut3 hr
          refine wp_drawS hS [(0, 0), (1, 0), (2, 0), (3, 1), (4, 0), (5, 0), (6, 0), (7, 1), (8, 3), (9, 0)] mix (by kernel_rfl) (hP.then.block.then.then.block.then) fun w hS => ?_
          have hD := hS
          refine dq hF rfl (wn rfl) rfl rfl (fun w => R.move (hF.ev rfl)) fun a hF => ?_
          refine dq hF rfl (wn rfl) rfl rfl (fun w => R.move (hF.ev rfl)) fun a hF => ?_
          refine dq hF rfl (wn rfl) rfl rfl (fun w => R.indexO Try.underlying60 sz58 (hF.ev rfl) (Rd.ne (hO6.rd hS (.t (.t (.t (.t (.t (.t .h))))))) (by rw [length_rptr]; omega)) (hF.ev rfl) (by omega) (by omega)) fun a hF => ?_
          refine dr hF rfl (wn rfl) rfl rfl hD (fun w hD => R.loadO one58 (hF.ev rfl) (hO6.rd hD (.t (.t (.t (.t (.t (.t .h))))))) (rptr_at hr (by omega))) fun a hF => ?_
          refine dq hF rfl (wn rfl) rfl rfl (fun w => R.move (hF.ev rfl)) fun a hF => ?_
          refine dq hF rfl (wn rfl) rfl rfl (fun w => R.move (hF.ev rfl)) fun a hF => ?_
          refine dq hF rfl (wn rfl) rfl rfl (fun w => R.indexO Try.underlying22 sz34 (hF.ev rfl) (stp_ne (hA.old hS) hp) (hF.ev rfl) (by omega) (by omega)) fun a hF => ?_
          refine dr hF rfl (wn rfl) rfl rfl hD (fun w hD => R.loadAO (cs := stpL p) agg34 (hF.ev rfl) (hA.old hD) sz34 rfl (Nat.succ_pos _) (fun j v h => stp_at hp h)) fun a hF => ?_
          refine dw rfl (wn rfl) (O.callK rfl rfl hF ent36 (hF.evs rfl) hS (rchange_calls r.rb r.l r.sg p _ hRr (hS.own1 (.t .h)) hac (by omega) hpo) (fun _ => (.t .h)) fun v s62 a w hR hF hS => ?_)
          obtain ⟨rfl, hRr2⟩ := hR
          refine dq hF rfl (wn rfl) rfl rfl (fun w => R.assign (hF.ev rfl)) fun a hF => ?_
          refine d0 ?_
          refine then_n (hK15 _ _ ?_)
          refine wp_seq_k fun K16 hK16 => ?_
          refine wp_seq_k fun K17 hK17 => ?_
          have hS := hS.sel [0, 1, 2, 3, 4, 5, 6] rfl rfl
          have hS := hS.join3 (by omega) (⟨r.rb, (chgR r.l p).1, s62⟩) rfl
          have hac1 := chgR_ok hac hpo.amt; have hPk1 := hPk.set (k := nn) (q := ⟨q.bv, (q.V.chg p).1, s51⟩) hV2; have hRk1 := hRk.set (k := nn) (q := ⟨r.rb, (chgR r.l p).1, s62⟩) hRr2 hac1; have hSm1 := hSm.set (k := nn) (p := ⟨q.bv, (q.V.chg p).1, s51⟩) (r := ⟨r.rb, (chgR r.l p).1, s62⟩) hsim.2; have hpp1 := pptr_set (q := ⟨q.bv, (q.V.chg p).1, s51⟩) hq rfl; have hrp1 := rptr_set (q := ⟨r.rb, (chgR r.l p).1, s62⟩) hr rfl; have hl1 : (ps.set nn ⟨q.bv, (q.V.chg p).1, s51⟩).length = ps.length := List.length_set; have hl2 : (rs.set nn ⟨r.rb, (chgR r.l p).1, s62⟩).length = rs.length := List.length_set; have hq1 : (ps.set nn ⟨q.bv, (q.V.chg p).1, s51⟩)[nn]? = some ⟨q.bv, (q.V.chg p).1, s51⟩ := (by rw [List.getElem?_set_self hlt]); have hr1 : (rs.set nn ⟨r.rb, (chgR r.l p).1, s62⟩)[nn]? = some ⟨r.rb, (chgR r.l p).1, s62⟩ := (by rw [List.getElem?_set_self (by omega)]); have hlen1 : (chgR r.l p).1.length ≤ i + 1 := Nat.le_trans (chgR_length _ _) (Nat.succ_le_succ hrl)
          have hRl1 : ∀ x ∈ rs.set nn ⟨r.rb, (chgR r.l p).1, s62⟩, x.l.length ≤ i + 1 := by (intro x hx; rcases List.mem_or_eq_of_mem_set hx with h | rfl; exact Nat.le_succ_of_le (hRl x h); exact hlen1)
          generalize ps.set nn ⟨q.bv, (q.V.chg p).1, s51⟩ = ps1 at hS hPk1 hSm1 hpp1 hl1 hq1
          generalize rs.set nn ⟨r.rb, (chgR r.l p).1, s62⟩ = rs1 at hS hRk1 hSm1 hrp1 hl2 hr1 hRl1
          refine wp_region_lit ?_
          refine sv' hF (wn rfl) rfl rfl (R.move (hF.ev rfl)) fun a hF => ?_
          refine sv' hF (wn rfl) rfl rfl (R.move (hF.ev rfl)) fun a hF => ?_
          refine sv' hF (wn rfl) rfl rfl (R.as (u := .bool false) (R.neq (p := (q.V.chg p).2) (q := (chgR r.l p).2) (hF.ev rfl) (hF.ev rfl)) (congrArg Value.bool (decide_eq_false (fun h => h (hsim.1.symm))))) fun a hF => ?_
          refine s0 ?_
          refine then_n (hK17 _ _ ?_)
          refine cF hF rfl ?_
          refine wp_skip ?_
          refine then_n (hK16 _ _ ?_)
          refine wp_seq_k fun K18 hK18 => ?_
          refine wp_region_lit ?_
          refine sv' hF (wn rfl) rfl rfl (R.move (hF.ev rfl)) fun a hF => ?_
          refine sv' hF (wn rfl) rfl rfl (R.move (hF.ev rfl)) fun a hF => ?_
          refine sv' hF (wn rfl) rfl rfl (R.indexO Try.underlying22 sz34 (hF.ev rfl) (stp_ne (hA.old hS) hp) (hF.ev rfl) (by omega) (by omega)) fun a hF => ?_
          refine sv' hF (wn rfl) rfl rfl (R.fieldAddrO (m := 1) Try.underlying34 rfl nz3 (hF.ev rfl) (stp_ne (hA.old hS) hp) rfl) fun a hF => ?_
          refine sv' hF (wn rfl) rfl rfl (R.loadO one3 (hF.ev rfl) (hA.old hS) (stp_at hp rfl)) fun a hF => ?_
          refine so (wn rfl) (O.call rfl rfl hF ent21 (hF.evs rfl) hS (pick_calls p.what 11 _ hpo.what (by decide) (by decide)) fun v s71 a w hR hF hS => ?_)
          obtain ⟨rfl, rfl⟩ := hR
          refine sv' hF (wn rfl) rfl rfl (R.assign (hF.ev rfl)) fun a hF => ?_
          refine s0 ?_
          refine then_n (hK18 _ _ ?_)
          refine wp_seq_k fun K19 hK19 => ?_
          have hK19' : ∀ a w, (∃ (ps2 : List Pv) (rs2 : List Rv) (B5 : Option Addr) (f5 : Nat) (z5 : Seg) (B6 : Option Addr) (f6 : Nat) (z6 : Seg), Fr 154 [(0, .slice A sts.length cap), (5, .slice B5 ps2.length f5), (6, .slice B6 rs2.length f6), (7, .int .i64 ((i : Nat) : Int)), (8, .int .i64 ((nn : Nat) : Int)), (12, .int .i64 (pickN p.what 11))] a ∧ St w0 [] [flS Pv.sg ps2, flS Rv.sg rs2, z5, z6] w ∧ (PoolOk ps2) ∧ (RefOk rs2) ∧ (OwnS z5 B5 ps2.length f5 (pptr ps2) 24 1) ∧ (OwnS z6 B6 rs2.length f6 (rptr rs2) 58 1) ∧ (ps2.length = rs2.length) ∧ (0 < ps2.length ∧ ps2.length ≤ 6) ∧ (SimAll ps2 rs2) ∧ (∀ r ∈ rs2, r.l.length ≤ (i + 1)) ∧ (nn < ps2.length)) → K19 a w := by
            rintro a w ⟨ps2, rs2, B5, f5, z5, B6, f6, z6, hF, hS, hPk2, hRk2, hO52, hO62, hl2, h162, hSm2, hRl2, hnn2⟩
            refine hK19 _ _ ?_
            refine wp_seq_k fun K20 hK20 => ?_
            obtain ⟨q2, hq2⟩ : ∃ q2, ps2[nn]? = some q2 := ⟨_, List.getElem?_eq_getElem hnn2⟩; obtain ⟨r2, hr2⟩ : ∃ r2, rs2[nn]? = some r2 := ⟨_, List.getElem?_eq_getElem (by omega)⟩; have hVx := hPk2 q2 (List.mem_of_getElem? hq2); have hRx := hRk2 r2 (List.mem_of_getElem? hr2); have hrl2 := hRl2 r2 (List.mem_of_getElem? hr2); have hSx := hSm2 nn q2 r2 hq2 hr2
            refine wp_drawS hS [(0, 0), (1, 0), (2, 0), (3, 0), (4, 0), (5, 0), (6, 1), (7, 0), (8, 0), (9, 0), (10, 1), (11, 0), (12, 0), (13, 0), (14, 0), (15, 1), (16, 0), (17, 0), (18, 0), (19, 0), (20, 1), (21, 2), (22, 0), (23, 0)] mix (by kernel_rfl) (hP.then.block.then.then.block.then) fun w hS => ?_
            have hD := hS
            refine dq hF rfl (wn rfl) rfl rfl (fun w => R.move (hF.ev rfl)) fun a hF => ?_
            refine dq hF rfl (wn rfl) rfl rfl (fun w => R.gtr (hF.ev rfl) (hF.ev rfl)) fun a hF => ?_
            refine dq hF rfl (wn rfl) rfl rfl (fun w => R.move (hF.ev rfl)) fun a hF => ?_
            refine hF.splitD (t := 100) rfl (fun h100 hF => ?_) (fun h100 hF => ?_)
            ·
              refine dq hF rfl (wy hF rfl rfl rfl) rfl rfl (fun w => R.move (hF.ev rfl)) fun a hF => ?_
              refine dq hF rfl (wy hF rfl rfl rfl) rfl rfl (fun w => R.move (hF.ev rfl)) fun a hF => ?_
              refine dq hF rfl (wy hF rfl rfl rfl) rfl rfl (fun w => R.indexO Try.underlying57 sz24 (hF.ev rfl) (Rd.ne (hO52.rd hS (.t (.t .h))) (by rw [length_pptr]; omega)) (hF.ev rfl) (by omega) (by omega)) fun a hF => ?_
              refine dr hF rfl (wy hF rfl rfl rfl) rfl rfl hD (fun w hD => R.loadO one24 (hF.ev rfl) (hO52.rd hD (.t (.t .h))) (pptr_at hq2 (by omega))) fun a hF => ?_
              refine dq hF rfl (wy hF rfl rfl rfl) rfl rfl (fun w => R.move (hF.ev rfl)) fun a hF => ?_
              refine dq hF rfl (wy hF rfl rfl rfl) rfl rfl (fun w => R.move (hF.ev rfl)) fun a hF => ?_
              refine dq hF rfl (wy hF rfl rfl rfl) rfl rfl (fun w => R.indexO Try.underlying60 sz58 (hF.ev rfl) (Rd.ne (hO62.rd hS (.t (.t (.t .h)))) (by rw [length_rptr]; omega)) (hF.ev rfl) (by omega) (by omega)) fun a hF => ?_
              refine dr hF rfl (wy hF rfl rfl rfl) rfl rfl hD (fun w hD => R.loadO one58 (hF.ev rfl) (hO62.rd hD (.t (.t (.t .h)))) (rptr_at hr2 (by omega))) fun a hF => ?_
              refine dq hF rfl (wy hF rfl rfl rfl) rfl rfl (fun w => R.move (hF.ev rfl)) fun a hF => ?_
              refine dq hF rfl (wy hF rfl rfl rfl) rfl rfl (fun w => R.move (hF.ev rfl)) fun a hF => ?_
              refine dq hF rfl (wy hF rfl rfl rfl) rfl rfl (fun w => R.indexO Try.underlying22 sz34 (hF.ev rfl) (stp_ne (hA.old hS) hp) (hF.ev rfl) (by omega) (by omega)) fun a hF => ?_
              refine dq hF rfl (wy hF rfl rfl rfl) rfl rfl (fun w => R.fieldAddrO (m := 2) Try.underlying34 rfl nz3 (hF.ev rfl) (stp_ne (hA.old hS) hp) rfl) fun a hF => ?_
              refine dr hF rfl (wy hF rfl rfl rfl) rfl rfl hD (fun w hD => R.loadO one3 (hF.ev rfl) (hA.old hD) (stp_at hp rfl)) fun a hF => ?_
              refine dq hF rfl (wy hF rfl rfl rfl) rfl rfl (fun w => R.move (hF.ev rfl)) fun a hF => ?_
              refine dq hF rfl (wy hF rfl rfl rfl) rfl rfl (fun w => R.move (hF.ev rfl)) fun a hF => ?_
              refine dq hF rfl (wy hF rfl rfl rfl) rfl rfl (fun w => R.indexO Try.underlying22 sz34 (hF.ev rfl) (stp_ne (hA.old hS) hp) (hF.ev rfl) (by omega) (by omega)) fun a hF => ?_
              refine dq hF rfl (wy hF rfl rfl rfl) rfl rfl (fun w => R.fieldAddrO (m := 3) Try.underlying34 rfl nz3 (hF.ev rfl) (stp_ne (hA.old hS) hp) rfl) fun a hF => ?_
              refine dr hF rfl (wy hF rfl rfl rfl) rfl rfl hD (fun w hD => R.loadO one3 (hF.ev rfl) (hA.old hD) (stp_at hp rfl)) fun a hF => ?_
              refine dl rfl (wy hF rfl rfl rfl) (O.call rfl rfl hF ent39 (hF.evs rfl) hS (alike14_calls q2.bv r2.rb q2.V r2.l q2.sg r2.sg p.token p.index _ hVx (hS.ownIn .h hq2) hRx.1 (hS.ownIn (.t .h) hr2) hRx.2 (by omega) hSx) fun v s119 a w hR hF hS => ⟨fun hD => hS.tail, ?_⟩)
              obtain ⟨rfl, rfl⟩ := hR
              have hD := hS.tail
              refine dq hF rfl (wy hF rfl rfl rfl) rfl rfl (fun w => R.as (u := .bool false) (R.not (b := true) (hF.ev rfl)) (rfl)) fun a hF => ?_
              refine dq hF rfl (wn rfl) rfl rfl (fun w => R.pickT (hF.ev rfl) (hF.ev rfl)) fun a hF => ?_
              refine d0 ?_
              refine then_n (hK20 _ _ ?_)
              refine cF hF rfl ?_
              refine wp_skip ?_
              refine blk_n ?_
              refine then_n (hK12 _ _ ?_)
              refine wp_region_lit ?_
              refine sv' hF (wn rfl) rfl rfl (R.move (hF.ev rfl)) fun a hF => ?_
              refine sv' hF (wn rfl) rfl rfl (R.addI (hF.ev rfl) (hF.ev rfl) (by omega)) fun a hF => ?_
              refine sv' hF (wn rfl) rfl rfl (R.assign (hF.ev rfl)) fun a hF => ?_
              refine s0 ?_
              refine then_n (hKL1 (sts.length - (i + 1)) _ _ ?_ ?_)
              · omega
              · exact ⟨i + 1, ps2, rs2, B5, f5, z5, B6, f6, z6, rfl, hF.sub ⟨rfl, rfl, rfl, rfl, trivial⟩, hS.sel [1, 2, 3, 4] rfl rfl, by omega, hPk2, hRk2, hO52, hO62, hl2, h162, hSm2, hRl2⟩
            ·
              refine dk hF rfl (ws hF rfl rfl rfl rfl) rfl rfl fun a hF => ?_
              refine dk hF rfl (ws hF rfl rfl rfl rfl) rfl rfl fun a hF => ?_
              refine dk hF rfl (ws hF rfl rfl rfl rfl) rfl rfl fun a hF => ?_
              refine dk1 hF rfl (ws hF rfl rfl rfl rfl) rfl rfl hD fun a hF => ?_
              refine dk hF rfl (ws hF rfl rfl rfl rfl) rfl rfl fun a hF => ?_
              refine dk hF rfl (ws hF rfl rfl rfl rfl) rfl rfl fun a hF => ?_
              refine dk hF rfl (ws hF rfl rfl rfl rfl) rfl rfl fun a hF => ?_
              refine dk1 hF rfl (ws hF rfl rfl rfl rfl) rfl rfl hD fun a hF => ?_
              refine dk hF rfl (ws hF rfl rfl rfl rfl) rfl rfl fun a hF => ?_
              refine dk hF rfl (ws hF rfl rfl rfl rfl) rfl rfl fun a hF => ?_
              refine dk hF rfl (ws hF rfl rfl rfl rfl) rfl rfl fun a hF => ?_
              refine dk hF rfl (ws hF rfl rfl rfl rfl) rfl rfl fun a hF => ?_
              refine dk1 hF rfl (ws hF rfl rfl rfl rfl) rfl rfl hD fun a hF => ?_
              refine dk hF rfl (ws hF rfl rfl rfl rfl) rfl rfl fun a hF => ?_
              refine dk hF rfl (ws hF rfl rfl rfl rfl) rfl rfl fun a hF => ?_
              refine dk hF rfl (ws hF rfl rfl rfl rfl) rfl rfl fun a hF => ?_
              refine dk hF rfl (ws hF rfl rfl rfl rfl) rfl rfl fun a hF => ?_
              refine dk1 hF rfl (ws hF rfl rfl rfl rfl) rfl rfl hD fun a hF => ?_
              refine dk2 hF rfl (ws hF rfl rfl rfl rfl) rfl rfl fun a hF => ?_
              refine dk hF rfl (ws hF rfl rfl rfl rfl) rfl rfl fun a hF => ?_
              refine dq hF rfl (wn rfl) rfl rfl (fun w => R.pickF (hF.ev rfl) (hF.ev rfl)) fun a hF => ?_
              refine d0 ?_
              refine then_n (hK20 _ _ ?_)
              refine cF hF rfl ?_
              refine wp_skip ?_
              refine blk_n ?_
              refine then_n (hK12 _ _ ?_)
              refine wp_region_lit ?_
              refine sv' hF (wn rfl) rfl rfl (R.move (hF.ev rfl)) fun a hF => ?_
              refine sv' hF (wn rfl) rfl rfl (R.addI (hF.ev rfl) (hF.ev rfl) (by omega)) fun a hF => ?_
              refine sv' hF (wn rfl) rfl rfl (R.assign (hF.ev rfl)) fun a hF => ?_
              refine s0 ?_
              refine then_n (hKL1 (sts.length - (i + 1)) _ _ ?_ ?_)
              · omega
              · exact ⟨i + 1, ps2, rs2, B5, f5, z5, B6, f6, z6, rfl, hF.sub ⟨rfl, rfl, rfl, rfl, trivial⟩, hS.sel [0, 1, 2, 3] rfl rfl, by omega, hPk2, hRk2, hO52, hO62, hl2, h162, hSm2, hRl2⟩
          refine wp_seq_k fun K21 hK21 => ?_
          have hK21' : ∀ a w, (Fr 154 [(0, .slice A sts.length cap), (5, .slice A5 ps.length e5), (6, .slice A6 rs.length e6), (7, .int .i64 ((i : Nat) : Int)), (8, .int .i64 ((nn : Nat) : Int)), (12, .int .i64 (pickN p.what 11)), (78, .bool (decide (pickN p.what 11 = 7 ∧ ps.length < 6)))] a ∧ St w0 [] [flS Pv.sg ps1, flS Rv.sg rs1, s5, s6] w) → K21 a w := by
            rintro a w ⟨hF, hS⟩
            refine hK21 _ _ ?_
            refine cD hF rfl (fun c3 => ?_) (fun c3 => ?_)
            ·
              refine wp_seq_k fun K22 hK22 => ?_
              refine wp_region_lit ?_
              refine sv' hF (wn rfl) rfl rfl (R.move (hF.ev rfl)) fun a hF => ?_
              refine sv' hF (wn rfl) rfl rfl (R.move (hF.ev rfl)) fun a hF => ?_
              refine sv' hF (wn rfl) rfl rfl (R.indexO Try.underlying57 sz24 (hF.ev rfl) (Rd.ne (hO5.rd hS (.t (.t .h))) (by rw [length_pptr]; omega)) (hF.ev rfl) (by omega) (by omega)) fun a hF => ?_
              refine sv' hF (wn rfl) rfl rfl (R.loadO one24 (hF.ev rfl) (hO5.rd hS (.t (.t .h))) (pptr_at hq (by omega))) fun a hF => ?_
              refine so (wn rfl) (O.call rfl rfl hF ent37 (hF.evs rfl) hS (copy_calls q.bv (q.V.chg p).1 s51 _ hV2 (hS.ownIn .h hq1)) fun v s83 a w hR hF hS => ?_)
              obtain ⟨bn, rfl, hVn⟩ := hR
              refine sv' hF (wn rfl) rfl rfl (R.assign (hF.ev rfl)) fun a hF => ?_
              refine s0 ?_
              refine then_n (hK22 _ _ ?_)
              refine wp_seq_k fun K23 hK23 => ?_
              refine wp_seq_k fun K24 hK24 => ?_
              refine wp_region_lit ?_
              refine sv' hF (wn rfl) rfl rfl (R.move (hF.ev rfl)) fun a hF => ?_
              refine sv' hF (wn rfl) rfl rfl (R.nilP (hF.ev rfl) (hF.ev rfl) Try.underlying24) fun a hF => ?_
              refine s0 ?_
              refine then_n (hK24 _ _ ?_)
              refine cF hF rfl ?_
              refine wp_skip ?_
              refine then_n (hK23 _ _ ?_)
              refine wp_seq_k fun K25 hK25 => ?_
              refine wp_region_lit ?_
              refine sv' hF (wn rfl) rfl rfl (R.move (hF.ev rfl)) fun a hF => ?_
              refine sv' hF (wn rfl) rfl rfl (R.move (hF.ev rfl)) fun a hF => ?_
              refine so (wn rfl) (O.buildSlice (l := [_]) rfl rfl hF Try.underlying57 inf24 rfl rfl (hF.evp rfl) (by decide) rfl hS fun b88 a w hF hS => ?_)
              refine so (wn rfl) (O.append rfl rfl hF Try.underlying57 inf24 rfl rfl (by decide) (hF.ev rfl) (hF.ev rfl) hS hO5 (fun _ => (.t (.t (.t (.t .h))))) (Rd.own0 hS .h) rfl (by simp [Value.oneCell']) (by unfold maxLen; omega) (by omega) fun A89 c89 s89 a w hO89 hF hS => ?_)
              refine sv' hF (wn rfl) rfl rfl (R.assign (hF.ev rfl)) fun a hF => ?_
              refine s0 ?_
              refine then_n (hK25 _ _ ?_)
              refine wp_region_lit ?_
              refine sv' hF (wn rfl) rfl rfl (R.move (hF.ev rfl)) fun a hF => ?_
              refine sv' hF (wn rfl) rfl rfl (R.move (hF.ev rfl)) fun a hF => ?_
              refine sv' hF (wn rfl) rfl rfl (R.move (hF.ev rfl)) fun a hF => ?_
              refine sv' hF (wn rfl) rfl rfl (R.indexO Try.underlying60 sz58 (hF.ev rfl) (Rd.ne (hO6.rd hS (.t (.t (.t (.t (.t .h)))))) (by rw [length_rptr]; omega)) (hF.ev rfl) (by omega) (by omega)) fun a hF => ?_
              refine sv' hF (wn rfl) rfl rfl (R.loadO one58 (hF.ev rfl) (hO6.rd hS (.t (.t (.t (.t (.t .h)))))) (rptr_at hr (by omega))) fun a hF => ?_
              refine so (wn rfl) (O.call rfl rfl hF ent38 (hF.evs rfl) hS (rCopy_calls r.rb (chgR r.l p).1 s62 _ hRr2 (hS.ownIn (.t (.t (.t .h))) hr1) (by omega)) fun v s95 a w hR hF hS => ?_)
              obtain ⟨rn, rfl, hRn⟩ := hR
              refine so (wn rfl) (O.buildSlice (l := [_]) rfl rfl hF Try.underlying60 inf58 rfl rfl (hF.evp rfl) (by decide) rfl hS fun b96 a w hF hS => ?_)
              refine so (wn rfl) (O.append rfl rfl hF Try.underlying60 inf58 rfl rfl (by decide) (hF.ev rfl) (hF.ev rfl) hS hO6 (fun _ => (.t (.t (.t (.t (.t (.t (.t .h)))))))) (Rd.own0 hS .h) rfl (by simp [Value.oneCell']) (by unfold maxLen; omega) (by omega) fun A97 c97 s97 a w hO97 hF hS => ?_)
              refine sv' hF (wn rfl) rfl rfl (R.assign (hF.ev rfl)) fun a hF => ?_
              refine s0 ?_
              have hS := hS.sel [4, 3, 0, 1, 2, 5, 6, 7] rfl rfl
              have hS := hS.join2 (⟨bn, (q.V.chg p).1, s83⟩) rfl
              have hS := hS.sel [4, 2, 0, 1, 3, 5, 6] rfl rfl
              have hS := hS.join2 (⟨rn, (chgR r.l p).1, s95⟩) rfl
              exact then_n (hK19' _ _ ⟨ps1 ++ [⟨bn, (q.V.chg p).1, s83⟩], rs1 ++ [⟨rn, (chgR r.l p).1, s95⟩], A89, c89, s89, A97, c97, s97, hF.sub ⟨rfl, (by rw [List.length_append, List.length_singleton, hl1]; rfl), (by rw [List.length_append, List.length_singleton, hl2]; rfl), rfl, rfl, rfl, trivial⟩, hS.sel [1, 0, 4, 5] rfl rfl, hPk1.snoc hVn, hRk1.snoc hRn hac1, (by rw [List.length_append, List.length_singleton, hl1, pptr_snoc', hpp1]; exact hO89), (by rw [List.length_append, List.length_singleton, hl2, rptr_snoc, hrp1]; exact hO97), (by rw [List.length_append, List.length_append, hl1, hl2, hl]; rfl), (by rw [List.length_append, List.length_singleton]; omega), hSm1.snoc (by rw [hl1, hl2]; exact hl) hsim.2, (by intro x hx; rcases List.mem_append.1 hx with h | h; exact hRl1 x h; rw [List.mem_singleton.1 h]; exact hlen1), (by rw [List.length_append]; omega)⟩)
            ·
              refine wp_skip ?_
              exact then_n (hK19' _ _ ⟨ps1, rs1, A5, e5, s5, A6, e6, s6, hF.sub ⟨rfl, (by rw [hl1]; rfl), (by rw [hl2]; rfl), rfl, rfl, rfl, trivial⟩, hS.sel [0, 1, 2, 3] rfl rfl, hPk1, hRk1, (by rw [hl1, hpp1]; exact hO5), (by rw [hl2, hrp1]; exact hO6), (by rw [hl1, hl2]; exact hl), (by omega), hSm1, hRl1, (by omega)⟩)
          refine wp_region_lit ?_
          refine sv' hF (wn rfl) rfl rfl (R.move (hF.ev rfl)) fun a hF => ?_
          refine sv' hF (wn rfl) rfl rfl (R.eql (hF.ev rfl) (hF.ev rfl)) fun a hF => ?_
          refine sv' hF (wn rfl) rfl rfl (R.move (hF.ev rfl)) fun a hF => ?_
          refine hF.splitD (t := 74) rfl (fun h74 hF => ?_) (fun h74 hF => ?_)
          ·
            refine sv' hF (wy hF rfl rfl rfl) rfl rfl (R.move (hF.ev rfl)) fun a hF => ?_
            refine sv' hF (wy hF rfl rfl rfl) rfl rfl (R.len Try.underlying57 (hF.ev rfl)) fun a hF => ?_
            refine sv' hF (wy hF rfl rfl rfl) rfl rfl (R.lss (hF.ev rfl) (hF.ev rfl)) fun a hF => ?_
            refine sv' hF (wn rfl) rfl rfl (R.pickT (hF.ev rfl) (hF.ev rfl)) fun a hF => ?_
            refine s0 ?_
            exact then_n (hK21' _ _ ⟨hF.sub ⟨rfl, rfl, rfl, rfl, rfl, rfl, (congrArg (fun z => some (Value.bool z)) (by first | exact (decide_eq_true (by omega)).symm | exact (decide_eq_false (by omega)).symm | exact decide_eq_decide.2 (by omega))), trivial⟩, hS.sel [2, 1, 4, 5] rfl rfl⟩)
          ·
            refine sk hF (ws hF rfl rfl rfl rfl) rfl rfl fun a hF => ?_
            refine sk hF (ws hF rfl rfl rfl rfl) rfl rfl fun a hF => ?_
            refine sk hF (ws hF rfl rfl rfl rfl) rfl rfl fun a hF => ?_
            refine sv' hF (wn rfl) rfl rfl (R.pickF (hF.ev rfl) (hF.ev rfl)) fun a hF => ?_
            refine s0 ?_
            exact then_n (hK21' _ _ ⟨hF.sub ⟨rfl, rfl, rfl, rfl, rfl, rfl, (congrArg (fun z => some (Value.bool z)) (by first | exact (decide_eq_true (by omega)).symm | exact (decide_eq_false (by omega)).symm | exact decide_eq_decide.2 (by omega))), trivial⟩, hS.sel [2, 1, 4, 5] rfl rfl⟩)
        ·
          refine wp_exit (then_x (then_x (blk_hit ?_)))
          refine then_n (hK8 _ _ ?_)
          refine wp_seq_k fun K26 hK26 => ?_
          refine wp_seq_k fun K27 hK27 => ?_
          refine wp_region_lit ?_
          refine sv' hF (wn rfl) rfl rfl (R.assign (hF.ev rfl)) fun a hF => ?_
          refine s0 ?_
          refine then_n (hK27 _ _ ?_)
          refine wp_block ?_
          refine wp_loop_N (fun g a w => ∃ (m : Nat), ps.length - m = g ∧ Fr 154 [(0, .slice A sts.length cap), (5, .slice A5 ps.length e5), (6, .slice A6 rs.length e6), (14, .int .i64 ((m : Nat) : Int))] a ∧ St w0 [] [flS Pv.sg ps, flS Rv.sg rs, s5, s6] w ∧ (m ≤ ps.length)) (ps.length - 0) ?_ ?_
          · exact ⟨0, rfl, hF.sub ⟨rfl, rfl, rfl, rfl, trivial⟩, hS.sel [0, 1, 2, 3] rfl rfl, by omega⟩
          · rintro KL2 g a w ⟨m, hg2, hF, hS, hm⟩ hKL2
            refine wp_seq_k fun K28 hK28 => ?_
            refine wp_seq_k fun K29 hK29 => ?_
            refine wp_region_lit ?_
            refine sv' hF (wn rfl) rfl rfl (R.move (hF.ev rfl)) fun a hF => ?_
            refine sv' hF (wn rfl) rfl rfl (R.move (hF.ev rfl)) fun a hF => ?_
            refine sv' hF (wn rfl) rfl rfl (R.len Try.underlying57 (hF.ev rfl)) fun a hF => ?_
            refine sv' hF (wn rfl) rfl rfl (R.lss (hF.ev rfl) (hF.ev rfl)) fun a hF => ?_
            refine s0 ?_
            refine then_n (hK29 _ _ ?_)
            refine cD hF rfl (fun c9 => ?_) (fun c9 => ?_)
            ·
              obtain ⟨q, hq⟩ : ∃ q, ps[m]? = some q := ⟨_, List.getElem?_eq_getElem (by omega)⟩
              obtain ⟨r, hr⟩ : ∃ r, rs[m]? = some r := ⟨_, List.getElem?_eq_getElem (by omega)⟩
              have hVx := hPk q (List.mem_of_getElem? hq)
              have hRx := hRk r (List.mem_of_getElem? hr)
              have hrl := hRl r (List.mem_of_getElem? hr)
              have hSx := hSm m q r hq hr
              refine wp_skip ?_
              refine then_n (hK28 _ _ ?_)
              refine wp_seq_k fun K30 hK30 => ?_
              refine wp_block ?_
              refine wp_seq_k fun K31 hK31 => ?_
              refine wp_region_lit ?_
              refine sv' hF (wn rfl) rfl rfl (R.assign (hF.ev rfl)) fun a hF => ?_
              refine s0 ?_
              refine then_n (hK31 _ _ ?_)
              refine wp_block ?_
              refine wp_loop_N (fun g a w => ∃ (j : Nat), sts.length - j = g ∧ Fr 154 [(0, .slice A sts.length cap), (5, .slice A5 ps.length e5), (6, .slice A6 rs.length e6), (14, .int .i64 ((m : Nat) : Int)), (15, .int .i64 ((j : Nat) : Int))] a ∧ St w0 [] [flS Pv.sg ps, flS Rv.sg rs, s5, s6] w ∧ (j ≤ sts.length)) (sts.length - 0) ?_ ?_
              · exact ⟨0, rfl, hF.sub ⟨rfl, rfl, rfl, rfl, rfl, trivial⟩, hS.sel [0, 1, 2, 3] rfl rfl, by omega⟩
              · rintro KL3 g a w ⟨j, hg3, hF, hS, hj⟩ hKL3
                refine wp_seq_k fun K32 hK32 => ?_
                refine wp_seq_k fun K33 hK33 => ?_
                refine wp_region_lit ?_
                refine sv' hF (wn rfl) rfl rfl (R.move (hF.ev rfl)) fun a hF => ?_
                refine sv' hF (wn rfl) rfl rfl (R.move (hF.ev rfl)) fun a hF => ?_
                refine sv' hF (wn rfl) rfl rfl (R.len Try.underlying22 (hF.ev rfl)) fun a hF => ?_
                refine sv' hF (wn rfl) rfl rfl (R.lss (hF.ev rfl) (hF.ev rfl)) fun a hF => ?_
                refine s0 ?_
                refine then_n (hK33 _ _ ?_)
                refine cD hF rfl (fun c10 => ?_) (fun c10 => ?_)
                ·
                  obtain ⟨p, hp⟩ : ∃ p, sts[j]? = some p := ⟨_, List.getElem?_eq_getElem (by omega)⟩
                  refine wp_skip ?_
                  refine then_n (hK32 _ _ ?_)
                  refine wp_seq_k fun K34 hK34 => ?_
                  refine wp_block ?_
                  refine wp_seq_k fun K35 hK35 => ?_
                  refine wp_drawS hS [(0, 0), (1, 0), (2, 0), (3, 1), (4, 0), (5, 0), (6, 0), (7, 1), (8, 0), (9, 0), (10, 0), (11, 0), (12, 1), (13, 0), (14, 0), (15, 0), (16, 0), (17, 1), (18, 2), (19, 0)] mix (by kernel_rfl) (hP.then.block.then.then.block.block.then.then.block.then) fun w hS => ?_
                  have hD := hS
                  refine dq hF rfl (wn rfl) rfl rfl (fun w => R.move (hF.ev rfl)) fun a hF => ?_
                  refine dq hF rfl (wn rfl) rfl rfl (fun w => R.move (hF.ev rfl)) fun a hF => ?_
                  refine dq hF rfl (wn rfl) rfl rfl (fun w => R.indexO Try.underlying57 sz24 (hF.ev rfl) (Rd.ne (hO5.rd hS (.t (.t .h))) (by rw [length_pptr]; omega)) (hF.ev rfl) (by omega) (by omega)) fun a hF => ?_
                  refine dr hF rfl (wn rfl) rfl rfl hD (fun w hD => R.loadO one24 (hF.ev rfl) (hO5.rd hD (.t (.t .h))) (pptr_at hq (by omega))) fun a hF => ?_
                  refine dq hF rfl (wn rfl) rfl rfl (fun w => R.move (hF.ev rfl)) fun a hF => ?_
                  refine dq hF rfl (wn rfl) rfl rfl (fun w => R.move (hF.ev rfl)) fun a hF => ?_
                  refine dq hF rfl (wn rfl) rfl rfl (fun w => R.indexO Try.underlying60 sz58 (hF.ev rfl) (Rd.ne (hO6.rd hS (.t (.t (.t .h)))) (by rw [length_rptr]; omega)) (hF.ev rfl) (by omega) (by omega)) fun a hF => ?_
                  refine dr hF rfl (wn rfl) rfl rfl hD (fun w hD => R.loadO one58 (hF.ev rfl) (hO6.rd hD (.t (.t (.t .h)))) (rptr_at hr (by omega))) fun a hF => ?_
                  refine dq hF rfl (wn rfl) rfl rfl (fun w => R.move (hF.ev rfl)) fun a hF => ?_
                  refine dq hF rfl (wn rfl) rfl rfl (fun w => R.move (hF.ev rfl)) fun a hF => ?_
                  refine dq hF rfl (wn rfl) rfl rfl (fun w => R.indexO Try.underlying22 sz34 (hF.ev rfl) (stp_ne (hA.old hS) hp) (hF.ev rfl) (by omega) (by omega)) fun a hF => ?_
                  refine dq hF rfl (wn rfl) rfl rfl (fun w => R.fieldAddrO (m := 2) Try.underlying34 rfl nz3 (hF.ev rfl) (stp_ne (hA.old hS) hp) rfl) fun a hF => ?_
                  refine dr hF rfl (wn rfl) rfl rfl hD (fun w hD => R.loadO one3 (hF.ev rfl) (hA.old hD) (stp_at hp rfl)) fun a hF => ?_
                  refine dq hF rfl (wn rfl) rfl rfl (fun w => R.move (hF.ev rfl)) fun a hF => ?_
                  refine dq hF rfl (wn rfl) rfl rfl (fun w => R.move (hF.ev rfl)) fun a hF => ?_
                  refine dq hF rfl (wn rfl) rfl rfl (fun w => R.indexO Try.underlying22 sz34 (hF.ev rfl) (stp_ne (hA.old hS) hp) (hF.ev rfl) (by omega) (by omega)) fun a hF => ?_
                  refine dq hF rfl (wn rfl) rfl rfl (fun w => R.fieldAddrO (m := 3) Try.underlying34 rfl nz3 (hF.ev rfl) (stp_ne (hA.old hS) hp) rfl) fun a hF => ?_
                  refine dr hF rfl (wn rfl) rfl rfl hD (fun w hD => R.loadO one3 (hF.ev rfl) (hA.old hD) (stp_at hp rfl)) fun a hF => ?_
                  refine dl rfl (wn rfl) (O.call rfl rfl hF ent39 (hF.evs rfl) hS (alike14_calls q.bv r.rb q.V r.l q.sg r.sg p.token p.index _ hVx (hS.ownIn .h hq) hRx.1 (hS.ownIn (.t .h) hr) hRx.2 (by omega) hSx) fun v s152 a w hR hF hS => ⟨fun hD => hS.tail, ?_⟩)
                  obtain ⟨rfl, rfl⟩ := hR
                  have hD := hS.tail
                  refine dq hF rfl (wn rfl) rfl rfl (fun w => R.as (u := .bool false) (R.not (b := true) (hF.ev rfl)) (rfl)) fun a hF => ?_
                  refine d0 ?_
                  refine then_n (hK35 _ _ ?_)
                  refine cF hF rfl ?_
                  refine wp_skip ?_
                  refine blk_n ?_
                  refine then_n (hK34 _ _ ?_)
                  refine wp_region_lit ?_
                  refine sv' hF (wn rfl) rfl rfl (R.move (hF.ev rfl)) fun a hF => ?_
                  refine sv' hF (wn rfl) rfl rfl (R.addI (hF.ev rfl) (hF.ev rfl) (by omega)) fun a hF => ?_
                  refine sv' hF (wn rfl) rfl rfl (R.assign (hF.ev rfl)) fun a hF => ?_
                  refine s0 ?_
                  refine then_n (hKL3 (sts.length - (j + 1)) _ _ ?_ ?_)
                  · omega
                  · exact ⟨j + 1, rfl, hF.sub ⟨rfl, rfl, rfl, rfl, rfl, trivial⟩, hS.sel [1, 2, 3, 4] rfl rfl, by omega⟩
                ·
                  refine wp_exit (then_x (then_x (blk_hit ?_)))
                  refine blk_n ?_
                  refine then_n (hK30 _ _ ?_)
                  refine wp_region_lit ?_
                  refine sv' hF (wn rfl) rfl rfl (R.move (hF.ev rfl)) fun a hF => ?_
                  refine sv' hF (wn rfl) rfl rfl (R.addI (hF.ev rfl) (hF.ev rfl) (by omega)) fun a hF => ?_
                  refine sv' hF (wn rfl) rfl rfl (R.assign (hF.ev rfl)) fun a hF => ?_
                  refine s0 ?_
                  refine then_n (hKL2 (ps.length - (m + 1)) _ _ ?_ ?_)
                  · omega
                  · exact ⟨m + 1, rfl, hF.sub ⟨rfl, rfl, rfl, rfl, trivial⟩, hS.sel [0, 1, 2, 3] rfl rfl, by omega⟩
            ·
              refine wp_exit (then_x (then_x (blk_hit ?_)))
              refine then_n (hK26 _ _ ?_)
              refine wp_seq_k fun K36 hK36 => ?_
              refine wp_region_lit ?_
              refine sv' hF (wn rfl) rfl rfl (R.assign (hF.ev rfl)) fun a hF => ?_
              refine s0 ?_
              refine then_n (hK36 _ _ ?_)
              refine wp_ret (hR _ _ _ _ _ hF (run_results Try.results6 (.t hF rfl (.nil))) ?_)
              exact ⟨_, [], rfl, ⟨rfl, rfl⟩, hS.none⟩

end Go.Proofs.Ythgecfjpacebeaa
