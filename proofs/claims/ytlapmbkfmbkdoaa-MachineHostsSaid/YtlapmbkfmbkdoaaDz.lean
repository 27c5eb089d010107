/- The small program that lives; the names. -/
import Derived.Test.YtlapmbkfmbkdoaaDy
namespace Go.Proofs.Ytlapmbkfmbkdoaa
open Go Go.Fw Go.RowKit
attribute [local irreducible] Go.Oper.wp Go.Code.wp Go.wpList Go.Fw.WL Go.Calls
def aliveF (b1 b2 : Nat) : Fx := { rb := 0, hb := 0, cA := some ⟨b1, 0, none⟩, cc := 6, code := [16, 0, 16, 1, 6, 1], aA := some ⟨b2, 0, none⟩, ac := 2, cl := ⟨fun _ => 0, fun _ => 0, 0, 0, [5, 7], 0, 100⟩, qA := none, qc := 0, reps := [], iA := none, ic := 0, inner := [] }
theorem alive_ok (b1 b2 : Nat) : Fx.Ok0 (aliveF b1 b2) := ⟨fun d hd => by simp [aliveF] at hd; omega, Nat.le_refl _, by show 6 ≤ _; decide, by intro x hx; simp [aliveF] at hx; omega, Nat.le_refl _, by show 2 ≤ _; decide, fun _ => by show 0 < 256; decide, fun _ => by show 0 < 256; decide, by show 0 < _; decide, by intro r hr; simp [aliveF] at hr, Nat.zero_le _⟩
theorem alive_in (b1 b2 : Nat) : InnerOk (aliveF b1 b2) := ⟨fun d hd => by simp [aliveF] at hd, Nat.zero_le _, Nat.zero_le _⟩
theorem alive_play (b1 b2 : Nat) : playN (aliveF b1 b2).cl (aliveF b1 b2).code (aliveF b1 b2).rep = ⟨12, 7, 0, []⟩ := by kernel_rfl
theorem alive_eq : EqOk Try.prog Op.maxDepth 39 (.agg #[.int .u64 12, .int .u64 0, .int .u64 0, .int .u64 0, .int .i64 7]) (.agg #[.int .u64 12, .int .u64 0, .int .u64 0, .int .u64 0, .int .i64 7]) true := fun w => by kernel_rfl
theorem alive_guard : Try.prog.eqGuardType Try.prog.depth 39 = false := by kernel_rfl

set_option maxHeartbeats 2000000 in
theorem alive_calls  (w0 : World) : Ret Try.prog 11 [] w0 [] (fun v s => v = .bool true ∧ s = []) := by
  refine fn_start Try.func11 rfl Try.ntmps11 rfl [] trivial ?_
  intro Q a hP hF hR hN
  have hS := St.start w0
  refine wp_seq_k fun K1 hK1 => ?_
  refine wp_region_lit ?_
  refine sv' hF (wn rfl) rfl rfl (R.assign (hF.ev rfl)) fun a hF => ?_
  refine s0 ?_
  refine then_n (hK1 _ _ ?_)
  refine wp_seq_k fun K2 hK2 => ?_
  refine wp_region_lit ?_
  refine so (wn rfl) (O.buildSlice (l := [_, _, _, _, _, _]) rfl rfl hF Try.underlying23 inf5 rfl rfl (hF.evp rfl) (by decide) rfl hS fun b5 a w hF hS => ?_)
  refine sv' hF (wn rfl) rfl rfl (R.buildArr (l := [_, _, _, _]) Try.underlying31 ze31 sz29 (hF.evp rfl) rfl) fun a hF => ?_
  refine sv' hF (wn rfl) rfl rfl (R.buildArr (l := [_, _, _, _]) Try.underlying31 ze31 sz29 (hF.evp rfl) rfl) fun a hF => ?_
  refine so (wn rfl) (O.buildSlice (l := [_, _, _, _, _, _, _, _]) rfl rfl hF Try.underlying32 inf31 rfl rfl (hF.evp rfl) (by decide) rfl hS fun b8 a w hF hS => ?_)
  refine sv' hF (wn rfl) rfl rfl (R.buildStr (l := callc (aliveF b5 b8)) Try.underlying34 ze34 pl34 (hF.evp rfl) (by kernel_rfl)) fun a hF => ?_
  refine sv' hF (wn rfl) rfl rfl (R.buildStr (l := plays (aliveF b5 b8)) Try.underlying37 ze37 pl37 (hF.evp rfl) (by kernel_rfl)) fun a hF => ?_
  refine so (wn rfl) (O.call rfl rfl hF ent15 (hF.evs rfl) hS (lawrun_calls (aliveF b5 b8) w (alive_ok b5 b8) (alive_in b5 b8) (Rd.own0 hS (.t .h)) (Rd.own0 hS .h) (Rd.nil _ _) (Rd.nil _ _) (by show 6 ≤ _; decide) (by show 2 ≤ _; decide) (Nat.zero_le _)) fun v s11 a w hR hF hS => ?_)
  obtain ⟨A11, c11, rfl, hO11⟩ := hR
  rw [alive_play] at hF hO11; dsimp only at hF
  refine sv' hF (wn rfl) rfl rfl (R.move (hF.ev rfl)) fun a hF => ?_
  refine sv' hF (wn rfl) rfl rfl (R.extract (hF.ev rfl) rfl) fun a hF => ?_
  refine sv' hF (wn rfl) rfl rfl (R.extract (hF.ev rfl) rfl) fun a hF => ?_
  refine sv' hF (wn rfl) rfl rfl (R.extract (hF.ev rfl) rfl) fun a hF => ?_
  refine so (wn rfl) (O.alloc rfl rfl hF ze39 rfl hS fun b1 a w hF hS => ?_)
  refine so (wn rfl) (O.storeW sz39 (hF.ev rfl) (hF.ev rfl) (rfl) rfl (by simp [Value.oneCell']) hS .h (rfl) fun w hS => ?_)
  refine sv' hF (wn rfl) rfl rfl (R.assign (hF.ev rfl)) fun a hF => ?_
  refine sv' hF (wn rfl) rfl rfl (R.assign (hF.ev rfl)) fun a hF => ?_
  refine s0 ?_
  refine then_n (hK2 _ _ ?_)
  refine wp_seq_k fun K3 hK3 => ?_
  refine wp_region_lit ?_
  refine sv' hF (wn rfl) rfl rfl (R.move (hF.ev rfl)) fun a hF => ?_
  refine sv' hF (wn rfl) rfl rfl (R.as (u := .bool true) (R.eql (p := 0) (q := 0) (hF.ev rfl) (hF.ev rfl)) (congrArg Value.bool (decide_eq_true (rfl)))) fun a hF => ?_
  refine sv' hF (wn rfl) rfl rfl (R.move (hF.ev rfl)) fun a hF => ?_
  refine sv' hF (wy hF rfl rfl rfl) rfl rfl (R.loadW agg39 (hF.ev rfl) hS .h sz39 (rfl)) fun a hF => ?_
  refine sv' hF (wy hF rfl rfl rfl) rfl rfl (R.buildArr (l := [_, _, _, _]) Try.underlying31 ze31 sz29 (hF.evp rfl) rfl) fun a hF => ?_
  refine sv' hF (wy hF rfl rfl rfl) rfl rfl (R.buildStr (l := [_, _, _, _, _]) Try.underlying39 ze39 pl39 (hF.evp rfl) rfl) fun a hF => ?_
  refine sv' hF (wy hF rfl rfl rfl) rfl rfl (R.eqlAgg (hF.ev rfl) (hF.ev rfl) alive_eq alive_guard) fun a hF => ?_
  refine sv' hF (wn rfl) rfl rfl (R.pickT (hF.ev rfl) (hF.ev rfl)) fun a hF => ?_
  refine sv' hF (wn rfl) rfl rfl (R.move (hF.ev rfl)) fun a hF => ?_
  refine sv' hF (wy hF rfl rfl rfl) rfl rfl (R.move (hF.ev rfl)) fun a hF => ?_
  refine sv' hF (wy hF rfl rfl rfl) rfl rfl (R.len Try.underlying40 (hF.ev rfl)) fun a hF => ?_
  refine sv' hF (wy hF rfl rfl rfl) rfl rfl (R.eql (hF.ev rfl) (hF.ev rfl)) fun a hF => ?_
  refine sv' hF (wn rfl) rfl rfl (R.pickT (hF.ev rfl) (hF.ev rfl)) fun a hF => ?_
  refine sv' hF (wn rfl) rfl rfl (R.assign (hF.ev rfl)) fun a hF => ?_
  refine s0 ?_
  refine then_n (hK3 _ _ ?_)
  refine wp_ret (hR _ _ _ _ _ hF (run_results Try.results11 (.t hF rfl (.nil))) ?_)
  exact ⟨_, [], rfl, ⟨rfl, rfl⟩, hS.none⟩

theorem machineNames_calls  (w0 : World) : Ret Try.prog 3 [] w0 [] (fun v s => v = .bool true ∧ s = []) := by
  refine fn_start Try.func3 rfl Try.ntmps3 rfl [] trivial ?_
  intro Q a hP hF hR hN
  have hS := St.start w0
  refine wp_seq_k fun K1 hK1 => ?_
  refine wp_region_lit ?_
  refine sv' hF (wn rfl) rfl rfl (R.assign (hF.ev rfl)) fun a hF => ?_
  refine s0 ?_
  refine then_n (hK1 _ _ ?_)
  refine wp_seq_k fun K2 hK2 => ?_
  refine wp_region_lit ?_
  refine sv' hF (wn rfl) rfl rfl (R.move (hF.ev rfl)) fun a hF => ?_
  refine so (wy hF rfl rfl rfl) (O.call rfl rfl hF ent11 (hF.evs rfl) hS (alive_calls _) fun v s2 a w hR hF hS => ?_)
  obtain ⟨rfl, rfl⟩ := hR
  refine sv' hF (wn rfl) rfl rfl (R.pickT (hF.ev rfl) (hF.ev rfl)) fun a hF => ?_
  refine sv' hF (wn rfl) rfl rfl (R.assign (hF.ev rfl)) fun a hF => ?_
  refine s0 ?_
  refine then_n (hK2 _ _ ?_)
  refine wp_ret (hR _ _ _ _ _ hF (run_results Try.results3 (.t hF rfl (.nil))) ?_)
  exact ⟨_, [], rfl, ⟨rfl, rfl⟩, hS.none⟩

end Go.Proofs.Ytlapmbkfmbkdoaa
