/- The reference's vault: there, do. -/
import Derived.Test.YthgecfjpacebeaaAj
namespace Go.Proofs.Ythgecfjpacebeaa
open Go Go.Fw Go.RowKit
attribute [local irreducible] Go.Oper.wp Go.Code.wp Go.wpList Go.Fw.WL Go.Calls
theorem there_calls (rb : Nat) (l : List Ac) (s : Seg) (t : Int) (w0 : World) (hV : RefS rb l s) (ho : Own w0 s) (hok : AcsOk l) (hc : l.length * 64 ≤ 140737488351232) : Ret Try.prog 106 [.pointer (some ⟨rb, 0, none⟩), .int .i64 t] w0 (s.map (·.1)) (fun v s' => v = .int .i64 (thereR l t) ∧ s' = s) := by
  refine fn_start Try.func106 rfl Try.ntmps106 rfl [(0, .pointer (some ⟨rb, 0, none⟩)), (1, .int .i64 t)] ⟨rfl, rfl, trivial⟩ ?_
  intro Q a hP hF hR hN
  have hS := St.enter ho
  refine wp_seq_k fun K1 hK1 => ?_
  refine wp_region_lit ?_
  refine sv' hF (wn rfl) rfl rfl (R.assign (hF.ev rfl)) fun a hF => ?_
  refine s0 ?_
  refine then_n (hK1 _ _ ?_)
  refine wp_seq_k fun K2 hK2 => ?_
  refine wp_seq_k fun K3 hK3 => ?_
  have hK3' : ∀ a w, (Fr 21 [(0, .pointer (some ⟨rb, 0, none⟩)), (1, .int .i64 t), (12, .bool (decide (t < 0 ∨ 64 ≤ t)))] a ∧ St w0 (s.map (·.1)) [s] w) → K3 a w := by
    rintro a w ⟨hF, hS⟩
    refine hK3 _ _ ?_
    refine cD hF rfl (fun c1 => ?_) (fun c1 => ?_)
    ·
      refine wp_seq_k fun K4 hK4 => ?_
      refine wp_region_lit ?_
      refine sv' hF (wn rfl) rfl rfl (R.assign (hF.ev rfl)) fun a hF => ?_
      refine s0 ?_
      refine then_n (hK4 _ _ ?_)
      refine wp_ret (then_r (hR _ _ _ _ _ hF (run_results Try.results106 (.t hF rfl (.nil))) ?_))
      exact ⟨_, _, rfl, ⟨by rw [thereR, if_pos c1]; rfl, rfl⟩, hS.one .h⟩
    ·
      refine wp_skip ?_
      refine then_n (hK2 _ _ ?_)
      refine wp_seq_k fun K5 hK5 => ?_
      refine wp_region_lit ?_
      refine sv' hF (wn rfl) rfl rfl (R.move (hF.ev rfl)) fun a hF => ?_
      refine sv' hF (wn rfl) rfl rfl (R.move (hF.ev rfl)) fun a hF => ?_
      refine so (wn rfl) (O.call rfl rfl hF ent90 (hF.evs rfl) hS (Ret.quiet (rListed_calls rb l s t _ hV (hS.own1 .h) hok (by omega)) (hS.own1 .h)) fun v s16 a w hR hF hS => ?_)
      obtain ⟨rfl, rfl⟩ := hR
      refine sv' hF (wn rfl) rfl rfl (R.move (hF.ev rfl)) fun a hF => ?_
      refine sv' hF (wn rfl) rfl rfl (R.extract (hF.ev rfl) rfl) fun a hF => ?_
      refine sv' hF (wn rfl) rfl rfl (R.extract (hF.ev rfl) rfl) fun a hF => ?_
      refine sv' hF (wn rfl) rfl rfl (R.assign (hF.ev rfl)) fun a hF => ?_
      refine sv' hF (wn rfl) rfl rfl (R.assign (hF.ev rfl)) fun a hF => ?_
      refine s0 ?_
      refine then_n (hK5 _ _ ?_)
      refine wp_seq_k fun K6 hK6 => ?_
      refine wp_seq_k fun K7 hK7 => ?_
      refine wp_region_lit ?_
      refine sv' hF (wn rfl) rfl rfl (R.move (hF.ev rfl)) fun a hF => ?_
      refine sv' hF (wn rfl) rfl rfl (R.not (b := (lisR l t).1) (hF.ev rfl)) fun a hF => ?_
      refine s0 ?_
      refine then_n (hK7 _ _ ?_)
      refine cS hF rfl (fun c2 => ?_) (fun c2 => ?_)
      ·
        refine wp_seq_k fun K8 hK8 => ?_
        refine wp_region_lit ?_
        refine sv' hF (wn rfl) rfl rfl (R.assign (hF.ev rfl)) fun a hF => ?_
        refine s0 ?_
        refine then_n (hK8 _ _ ?_)
        refine wp_ret (then_r (hR _ _ _ _ _ hF (run_results Try.results106 (.t hF rfl (.nil))) ?_))
        exact ⟨_, _, rfl, ⟨by rw [thereR, if_neg c1, if_neg (by simpa using c2)]; rfl, rfl⟩, hS.one (.t .h)⟩
      ·
        refine wp_skip ?_
        refine then_n (hK6 _ _ ?_)
        refine wp_seq_k fun K9 hK9 => ?_
        refine wp_region_lit ?_
        refine sv' hF (wn rfl) rfl rfl (R.assign (hF.ev rfl)) fun a hF => ?_
        refine s0 ?_
        refine then_n (hK9 _ _ ?_)
        refine wp_ret (hR _ _ _ _ _ hF (run_results Try.results106 (.t hF rfl (.nil))) ?_)
        exact ⟨_, _, rfl, ⟨by rw [thereR, if_neg c1, if_pos (by simpa using c2)]; rfl, rfl⟩, hS.one (.t .h)⟩
  refine wp_region_lit ?_
  refine sv' hF (wn rfl) rfl rfl (R.move (hF.ev rfl)) fun a hF => ?_
  refine sv' hF (wn rfl) rfl rfl (R.lss (hF.ev rfl) (hF.ev rfl)) fun a hF => ?_
  refine sv' hF (wn rfl) rfl rfl (R.move (hF.ev rfl)) fun a hF => ?_
  refine hF.splitD (t := 9) rfl (fun h9 hF => ?_) (fun h9 hF => ?_)
  ·
    refine sk hF (ws hF rfl rfl rfl rfl) rfl rfl fun a hF => ?_
    refine sk hF (ws hF rfl rfl rfl rfl) rfl rfl fun a hF => ?_
    refine sv' hF (wn rfl) rfl rfl (R.pickT (hF.ev rfl) (hF.ev rfl)) fun a hF => ?_
    refine s0 ?_
    exact then_n (hK3' _ _ ⟨hF.sub ⟨rfl, rfl, (congrArg (fun z => some (Value.bool z)) (by first | exact (decide_eq_true (by omega)).symm | exact (decide_eq_false (by omega)).symm | exact decide_eq_decide.2 (by omega))), trivial⟩, hS.sel [0] rfl rfl⟩)
  ·
    refine sv' hF (wy hF rfl rfl rfl) rfl rfl (R.move (hF.ev rfl)) fun a hF => ?_
    refine sv' hF (wy hF rfl rfl rfl) rfl rfl (R.geq (hF.ev rfl) (hF.ev rfl)) fun a hF => ?_
    refine sv' hF (wn rfl) rfl rfl (R.pickF (hF.ev rfl) (hF.ev rfl)) fun a hF => ?_
    refine s0 ?_
    exact then_n (hK3' _ _ ⟨hF.sub ⟨rfl, rfl, (congrArg (fun z => some (Value.bool z)) (by first | exact (decide_eq_true (by omega)).symm | exact (decide_eq_false (by omega)).symm | exact decide_eq_decide.2 (by omega))), trivial⟩, hS.sel [0] rfl rfl⟩)

theorem acL_one (p : Ac) : ∀ u ∈ acL p, u.oneCell' = true := by
  intro u hu
  simp only [acL, wc, List.mem_cons, List.not_mem_nil, or_false] at hu
  rcases hu with rfl | rfl | rfl | rfl | rfl | rfl | rfl <;> rfl

theorem do_calls (rb : Nat) (l : List Ac) (s : Seg) (p : Ac) (w0 : World) (hV : RefS rb l s) (ho : Own w0 s) (hc : l.length * 64 ≤ 140737488351232) : Ret Try.prog 107 [.pointer (some ⟨rb, 0, none⟩), .agg (acL p).toArray] w0 (s.map (·.1)) (fun v s' => v = .int .i64 0 ∧ RefS rb (l ++ [p]) s') := by
  refine fn_start Try.func107 rfl Try.ntmps107 rfl [(0, .pointer (some ⟨rb, 0, none⟩)), (1, .agg (acL p).toArray)] ⟨rfl, rfl, trivial⟩ ?_
  intro Q a hP hF hR hN
  have hS := St.enter ho
  refine wp_seq_k fun K1 hK1 => ?_
  refine wp_region_lit ?_
  refine so (wn rfl) (O.box rfl rfl hF (hF.ev rfl) rfl hS fun b3 a w hF hS => ?_)
  refine sv' hF (wn rfl) rfl rfl (R.assign (hF.ev rfl)) fun a hF => ?_
  refine s0 ?_
  refine then_n (hK1 _ _ ?_)
  refine wp_seq_k fun K2 hK2 => ?_
  obtain ⟨A, c, sg, rfl, hO⟩ := hV; have hS := hS.sel [1, 0] rfl rfl
  have hS := hS.flat (bs' := [[(rb, Cel [.slice A l.length c] 115)], sg, [(b3, Cel (acL p) 139)]]) (by simp [selS])
  refine wp_drawG hS (hS.sel [0, 2] rfl rfl) [(0, 0), (1, 0), (2, 0), (3, 0), (4, 1), (5, 1), (6, 2), (7, 2), (8, 0), (9, 0), (10, 3)] mix (by kernel_rfl) (hP.then) fun w hS hD => ?_
  refine dq hF rfl (wn rfl) rfl rfl (fun w => R.move (hF.ev rfl)) fun a hF => ?_
  refine dq hF rfl (wn rfl) rfl rfl (fun w => R.move (hF.ev rfl)) fun a hF => ?_
  refine dq hF rfl (wn rfl) rfl rfl (fun w => R.nilCheck (hF.ev rfl)) fun a hF => ?_
  refine dq hF rfl (wn rfl) rfl rfl (fun w => R.fieldAddr (k := 0) Try.underlying115 rfl nz113 (hF.ev rfl) rfl) fun a hF => ?_
  refine dr hF rfl (wn rfl) rfl rfl hD (fun w hD => R.load one113 (hF.ev rfl) hD .h (rfl)) fun a hF => ?_
  refine dr hF rfl (wn rfl) rfl rfl hD (fun w hD => R.loadW agg139 (hF.ev rfl) hD (.t .h) sz139 (rfl)) fun a hF => ?_
  refine dl rfl (wn rfl) (O.buildSlice (l := acL p) rfl rfl hF Try.underlying113 inf139 rfl rfl (hF.evp rfl) (by decide) rfl hS fun b11 a w hF hS => ⟨fun hD => hS.sel [1, 3] rfl rfl, ?_⟩)
  have hD := hS.sel [1, 3] rfl rfl
  refine dl rfl (wn rfl) (O.append rfl rfl hF Try.underlying113 inf139 rfl rfl (by decide) (hF.ev rfl) (hF.ev rfl) hS hO (fun _ => (.t (.t .h))) (Rd.own0 hS .h) rfl (acL_one p) (by unfold maxLen; omega) (by omega) fun A12 c12 s12 a w hO12 hF hS => ⟨fun hD => hS.sel [1, 3] rfl rfl, ?_⟩)
  have hD := hS.sel [1, 3] rfl rfl
  refine dq hF rfl (wn rfl) rfl rfl (fun w => R.nilCheck (hF.ev rfl)) fun a hF => ?_
  refine dq hF rfl (wn rfl) rfl rfl (fun w => R.fieldAddr (k := 0) Try.underlying115 rfl nz113 (hF.ev rfl) rfl) fun a hF => ?_
  refine dw rfl (wn rfl) (O.store sz113 (hF.ev rfl) (hF.ev rfl) rfl rfl hS (.t .h) (rfl) (by first | decide | omega | simp) fun w hS => ?_)
  refine d0 ?_
  refine then_n (hK2 _ _ ?_)
  refine wp_seq_k fun K3 hK3 => ?_
  refine wp_region_lit ?_
  refine sv' hF (wn rfl) rfl rfl (R.assign (hF.ev rfl)) fun a hF => ?_
  refine s0 ?_
  refine then_n (hK3 _ _ ?_)
  refine wp_ret (hR _ _ _ _ _ hF (run_results Try.results107 (.t hF rfl (.nil))) ?_)
  have hS := (hS.sel [1, 2] rfl rfl).flat (bs' := [(rb, Cel [.slice A12 (l ++ [p]).length c12] 115) :: s12]) (by simp [selS])
  exact ⟨_, _, rfl, ⟨rfl, A12, c12, s12, rfl, by rw [List.length_append, List.length_singleton, ← acs_snoc]; exact hO12⟩, hS⟩

end Go.Proofs.Ythgecfjpacebeaa
