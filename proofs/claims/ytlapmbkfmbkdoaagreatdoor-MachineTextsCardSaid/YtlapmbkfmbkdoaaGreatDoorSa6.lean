/- Part 6 of what the row MachineTexts needs, with no condition beyond each lemma's own. -/
import Derived.Test.YtlapmbkfmbkdoaaGreatDoorSa5
section
namespace Go.Proofs.YtlapmbkfmbkdoaaGreatDoor
open Go Go.Fw Go.RowKit
attribute [local irreducible] Go.Oper.wp Go.Code.wp Go.wpList Go.Fw.WL Go.Calls
theorem plc_len {xs : List Nat} : ∀ (f p : Nat) (l : List Nat), plc xs f p = some l → l.length ≤ xs.length - p
  | 0, _, _, h => by simp [plc] at h
  | f + 1, p, l, h => by
    simp only [plc] at h
    split at h
    · simp at h; subst h; simp
    split at h
    · simp at h
    · rename_i h1 h2
      cases hr : plc xs f (p + sizeN xs p) with
      | none => rw [hr] at h; simp at h
      | some r =>
        rw [hr] at h
        simp only [Option.map_some, Option.some.injEq] at h
        subst h
        have := plc_len f _ r hr
        have := (sizeN_le xs p).resolve_left h2
        rw [List.length_cons]; omega
def tS (xs : List Nat) : List Nat := if chkN xs then textN xs else []
def tE (xs : List Nat) : Int := if chkN xs then 0 else 100
theorem chk_places {xs : List Nat} (h : chkN xs = true) : ∃ l, placesN xs = some l ∧ xs.length ≤ 1024 ∧ l.length ≤ 1024 := by
  have h3 : xs.length ≤ 1024 := by
    simp only [chkN, Bool.and_eq_true, decide_eq_true_eq] at h; omega
  cases hl : placesN xs with
  | none => simp [chkN, hl] at h
  | some l => exact ⟨l, rfl, h3, by have := plc_len _ _ _ hl; omega⟩
theorem rtext_calls (A : Option Addr) (n c : Nat) (xs : List Nat) (w0 : World) (hA : Rd w0 A (byts xs)) (hn : xs.length = n) (hnc : n ≤ c) (hc : c ≤ 9223372036854775807) (hB : Byt xs) : Ret Tryz.prog 8 [.slice A n c] w0 [] (fun v s => v = .tuple #[.string (bstr (tS xs)), .int .i64 (tE xs)] ∧ s = []) := by
  cases hck : chkN xs with
  | true =>
    obtain ⟨l, hl, h3, h4⟩ := chk_places hck
    have := rtext_good A n c xs l w0 hA hn hnc hc hB hck hl (by omega) (places_mem hl) h4
    simpa only [tS, tE, hck, if_true] using this
  | false =>
    have := rtext_bad A n c xs w0 hA hn hnc hc hB hck
    simp only [tS, tE, hck, Bool.false_eq_true, if_false]
    exact this
theorem mtext_calls (A : Option Addr) (n c : Nat) (xs : List Nat) (w0 : World) (hA : Rd w0 A (byts xs)) (hn : xs.length = n) (hnc : n ≤ c) (hc : c ≤ 9223372036854775807) (hB : Byt xs) (ht : TabW w0) : Ret Tryz.prog 9 [.slice A n c] w0 [] (fun v s => v = .tuple #[.string (bstr (tS xs)), .int .i64 (tE xs)] ∧ s = []) := by
  cases hck : chkN xs with
  | true =>
    obtain ⟨l, hl, h3, h4⟩ := chk_places hck
    have := mtext_good A n c xs l w0 hA hn hnc hc hB ht hck hl (by omega)
    simpa only [tS, tE, hck, if_true] using this
  | false =>
    have := mtext_bad A n c xs w0 hA hn hnc hc hB hck
    simp only [tS, tE, hck, Bool.false_eq_true, if_false]
    exact this
theorem machineTexts_calls (A : Option Addr) (n c : Nat) (xs : List Nat) (w0 : World) (hA : Rd w0 A (byts xs)) (hn : xs.length = n) (hnc : n ≤ c) (hc : c ≤ 9223372036854775807) (hB : Byt xs) (hb : n ≤ 140737488351232) (ht : TabW w0) : Ret Tryz.prog 3 [.slice A n c] w0 [] (fun v s => v = .bool true ∧ s = []) := by
  refine fn_start Tryz.func3 rfl Tryz.ntmps3 rfl [(0, .slice A n c)] ⟨rfl, trivial⟩ ?_
  intro Q a hP hF hR hN
  have hS := St.start w0
  refine wp_seq_k fun K1 hK1 => ?_
  refine wp_region_lit ?_
  refine sv' hF (wn rfl) rfl rfl (R.assign (hF.ev rfl)) fun a hF => ?_
  refine s0 ?_
  refine then_n (hK1 _ _ ?_)
  refine wp_seq_k fun K2 hK2 => ?_
  refine wp_region_lit ?_
  refine sv' hF (wn rfl) rfl rfl (R.move (hF.ev rfl)) fun a hF => ?_
  refine so (wn rfl) (O.call rfl rfl hF ent8 (hF.evs rfl) hS (rtext_calls A n c xs _ (hA.old hS) hn hnc hc hB) fun v s9 a w hR hF hS => ?_)
  obtain ⟨rfl, rfl⟩ := hR
  refine sv' hF (wn rfl) rfl rfl (R.move (hF.ev rfl)) fun a hF => ?_
  refine sv' hF (wn rfl) rfl rfl (R.extract (hF.ev rfl) rfl) fun a hF => ?_
  refine sv' hF (wn rfl) rfl rfl (R.extract (hF.ev rfl) rfl) fun a hF => ?_
  refine sv' hF (wn rfl) rfl rfl (R.assign (hF.ev rfl)) fun a hF => ?_
  refine sv' hF (wn rfl) rfl rfl (R.assign (hF.ev rfl)) fun a hF => ?_
  refine s0 ?_
  refine then_n (hK2 _ _ ?_)
  refine wp_seq_k fun K3 hK3 => ?_
  refine wp_region_lit ?_
  refine so (wn rfl) (O.buildSlice (l := []) rfl rfl hF Tryz.underlying22 inf5 rfl rfl (hF.evp rfl) (by decide) rfl hS fun b13 a w hF hS => ?_)
  refine sv' hF (wn rfl) rfl rfl (R.move (hF.ev rfl)) fun a hF => ?_
  refine so (wn rfl) (O.appendO rfl rfl hF Tryz.underlying22 inf5 rfl rfl (by decide) (hF.ev rfl) (hF.ev rfl) hS (own_nil5 b13) (fun _ => .h) (hA.old hS) (by rw [length_byts, Nat.mul_one, hn]) (byts_one xs) (by unfold maxLen; omega) (by omega) fun A5 c5 s5 a w hO5 hF hS => ?_)
  rw [Nat.zero_add] at hF hO5; rw [show byts [] = [] from rfl, List.nil_append] at hO5
  refine so (wn rfl) (O.call rfl rfl hF ent9 (hF.evs rfl) hS (mtext_calls A5 n c5 xs w (hO5.rd hS .h) hn hO5.2.1 hO5.cap hB (ht.old hS)) fun v s16 a w hR hF hS => ?_)
  obtain ⟨rfl, rfl⟩ := hR
  refine sv' hF (wn rfl) rfl rfl (R.move (hF.ev rfl)) fun a hF => ?_
  refine sv' hF (wn rfl) rfl rfl (R.extract (hF.ev rfl) rfl) fun a hF => ?_
  refine sv' hF (wn rfl) rfl rfl (R.extract (hF.ev rfl) rfl) fun a hF => ?_
  refine sv' hF (wn rfl) rfl rfl (R.assign (hF.ev rfl)) fun a hF => ?_
  refine sv' hF (wn rfl) rfl rfl (R.assign (hF.ev rfl)) fun a hF => ?_
  refine s0 ?_
  refine then_n (hK3 _ _ ?_)
  refine wp_seq_k fun K4 hK4 => ?_
  refine wp_region_lit ?_
  refine sv' hF (wn rfl) rfl rfl (R.move (hF.ev rfl)) fun a hF => ?_
  refine sv' hF (wn rfl) rfl rfl (R.move (hF.ev rfl)) fun a hF => ?_
  refine sv' hF (wn rfl) rfl rfl (R.as (u := .bool true) (R.eql (p := tE xs) (q := tE xs) (hF.ev rfl) (hF.ev rfl)) (congrArg Value.bool (decide_eq_true rfl))) fun a hF => ?_
  refine sv' hF (wn rfl) rfl rfl (R.move (hF.ev rfl)) fun a hF => ?_
  refine sv' hF (wy hF rfl rfl rfl) rfl rfl (R.move (hF.ev rfl)) fun a hF => ?_
  refine sv' hF (wy hF rfl rfl rfl) rfl rfl (R.move (hF.ev rfl)) fun a hF => ?_
  refine sv' hF (wy hF rfl rfl rfl) rfl rfl (R.as (u := .bool true) (R.eqlStr (hF.ev rfl) (hF.ev rfl)) (congrArg Value.bool (decide_eq_true (rfl)))) fun a hF => ?_
  refine sv' hF (wn rfl) rfl rfl (R.pickT (hF.ev rfl) (hF.ev rfl)) fun a hF => ?_
  refine sv' hF (wn rfl) rfl rfl (R.move (hF.ev rfl)) fun a hF => ?_
  refine so (wy hF rfl rfl rfl) (O.call rfl rfl hF ent10 (hF.evs rfl) hS (alive_calls _) fun v s28 a w hR hF hS => ?_)
  obtain ⟨rfl, rfl⟩ := hR
  refine sv' hF (wn rfl) rfl rfl (R.pickT (hF.ev rfl) (hF.ev rfl)) fun a hF => ?_
  refine sv' hF (wn rfl) rfl rfl (R.assign (hF.ev rfl)) fun a hF => ?_
  refine s0 ?_
  refine then_n (hK4 _ _ ?_)
  refine wp_ret (hR _ _ _ _ _ hF (run_results Tryz.results3 (.t hF rfl (.nil))) ?_)
  exact ⟨_, [], rfl, ⟨rfl, rfl⟩, hS.none⟩
theorem pow_laid {W : World} (h : laidMet Tryz.prog Rows.machineTextsRow.laid W) : TabW W := by
  obtain ⟨ps, ⟨_, _, _, _, _, _, _, _, _, _, ⟨_, _, _, _, _, _, _, _, _, _, ⟨g, t, cs, fuel, p, q, hg, ht, hvar, hd, _, _⟩, _⟩, _⟩, _⟩ := h
  obtain ⟨g0, e0⟩ := pow_global
  obtain rfl := Option.some.inj (e0.symm.trans hg)
  obtain rfl := Option.some.inj ((show (Tryz.prog.globals[g0]?).map (·.type) = some 194 by
    rw [show g0 = 2 from Option.some.inj (e0.symm.trans (by kernel_rfl))]; kernel_rfl).symm.trans ht)
  unfold TabW Lib.TabIs
  rw [hvar, ← Lib.cells_of_tab (k := .u64) (zs := Lib.pow10Tab) Tryz.underlying194 Tryz.underlying30 (by kernel_rfl) (by kernel_rfl) hd]
end Go.Proofs.YtlapmbkfmbkdoaaGreatDoor
end
