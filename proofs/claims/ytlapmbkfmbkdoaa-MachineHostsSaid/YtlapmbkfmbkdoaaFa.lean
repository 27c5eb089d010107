/- The walk of MachineChecks. -/
import Derived.Test.YtlapmbkfmbkdoaaDz
namespace Go.Proofs.Ytlapmbkfmbkdoaa
open Go Go.Fw Go.RowKit
attribute [local irreducible] Go.Oper.wp Go.Code.wp Go.wpList Go.Fw.WL Go.Calls
theorem machineChecks_calls (A : Option Addr) (n c : Nat) (xs : List Nat) (w0 : World) (hA : Rd w0 A (byts xs)) (hn : xs.length = n) (hnc : n ≤ c) (hc : c ≤ 9223372036854775807) (hB : Byt xs) (hb : n ≤ 140737488351232) : Ret Try.prog 4 [.slice A n c] w0 [] (fun v s => v = .bool true ∧ s = []) := by
  refine fn_start Try.func4 rfl Try.ntmps4 rfl [(0, .slice A n c)] ⟨rfl, trivial⟩ ?_
  intro Q a hP hF hR hN
  have hS := St.start w0
  refine wp_seq_k fun K1 hK1 => ?_
  refine wp_region_lit ?_
  refine sv' hF (wn rfl) rfl rfl (R.assign (hF.ev rfl)) fun a hF => ?_
  refine s0 ?_
  refine then_n (hK1 _ _ ?_)
  refine wp_seq_k fun K2 hK2 => ?_
  refine wp_region_lit ?_
  refine so (wn rfl) (O.buildSlice (l := []) rfl rfl hF Try.underlying23 inf5 rfl rfl (hF.evp rfl) (by decide) rfl hS fun b3 a w hF hS => ?_)
  refine sv' hF (wn rfl) rfl rfl (R.move (hF.ev rfl)) fun a hF => ?_
  refine so (wn rfl) (O.appendO rfl rfl hF Try.underlying23 inf5 rfl rfl (by decide) (hF.ev rfl) (hF.ev rfl) hS (own_nil5 b3) (fun _ => .h) (hA.old hS) (by rw [length_byts, Nat.mul_one, hn]) (byts_one xs) (by unfold maxLen; omega) (by omega) fun A5 c5 s5 a w hO5 hF hS => ?_)
  rw [Nat.zero_add] at hF hO5; rw [show byts [] = [] from rfl, List.nil_append] at hO5
  refine so (wn rfl) (O.call rfl rfl hF ent12 (hF.evs rfl) hS (check_calls A5 n c5 xs w (hO5.rd hS .h) hn hO5.2.1 hO5.cap hB) fun v s6 a w hR hF hS => ?_)
  obtain ⟨rfl, rfl⟩ := hR
  refine sv' hF (wn rfl) rfl rfl (R.move (hF.ev rfl)) fun a hF => ?_
  refine so (wn rfl) (O.call rfl rfl hF ent13 (hF.evs rfl) hS (rcheck_calls A n c xs w (hA.old hS) hn hnc hc hB) fun v s8 a w hR hF hS => ?_)
  obtain ⟨rfl, rfl⟩ := hR
  refine sv' hF (wn rfl) rfl rfl (R.as (u := .bool true) (R.eql (p := if chkN xs then 0 else 100) (q := if chkN xs then 0 else 100) (hF.ev rfl) (hF.ev rfl)) (congrArg Value.bool (decide_eq_true rfl))) fun a hF => ?_
  refine sv' hF (wn rfl) rfl rfl (R.move (hF.ev rfl)) fun a hF => ?_
  refine so (wy hF rfl rfl rfl) (O.call rfl rfl hF ent11 (hF.evs rfl) hS (alive_calls _) fun v s11 a w hR hF hS => ?_)
  obtain ⟨rfl, rfl⟩ := hR
  refine sv' hF (wn rfl) rfl rfl (R.pickT (hF.ev rfl) (hF.ev rfl)) fun a hF => ?_
  refine sv' hF (wn rfl) rfl rfl (R.assign (hF.ev rfl)) fun a hF => ?_
  refine s0 ?_
  refine then_n (hK2 _ _ ?_)
  refine wp_ret (hR _ _ _ _ _ hF (run_results Try.results4 (.t hF rfl (.nil))) ?_)
  exact ⟨_, [], rfl, ⟨rfl, rfl⟩, hS.none⟩

end Go.Proofs.Ytlapmbkfmbkdoaa
