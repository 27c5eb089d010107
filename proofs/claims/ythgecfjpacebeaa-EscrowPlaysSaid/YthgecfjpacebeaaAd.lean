/- The calls of look; two rows that are alike are told so. -/
import Derived.Test.YthgecfjpacebeaaAc
namespace Go.Proofs.Ythgecfjpacebeaa
open Go Go.Fw Go.RowKit
attribute [local irreducible] Go.Oper.wp Go.Code.wp Go.wpList Go.Fw.WL Go.Calls
theorem ze44s : zeT Try.prog 44 (.agg (seenC (fun _ => false) (fun _ => false) (fun _ => 0) 0).toArray) := by unfold zeT; kernel_rfl
theorem eg44 : Try.prog.eqGuardType Try.prog.depth 44 = false := by kernel_rfl
theorem st44 : Try.prog.stoodInHeld 44 = false := by kernel_rfl
theorem ext_get (l : List Value) (a n i : Nat) (h : i < n) (hl : a + n ≤ l.length) : (l.toArray.extract a (a + n))[i]? = l[a + i]? := by
  rw [Array.getElem?_extract, if_pos (by simp; omega)]; simp
theorem ext_wide (l : List Value) (a x : Nat) (hl : a + 4 ≤ l.length) (h : ∀ j, j < 4 → l[a + j]? = (wc x)[j]?) : l.toArray.extract a (a + 4) = (wc x).toArray := by
  apply Array.ext_getElem?
  intro j
  by_cases hj : j < 4
  · rw [ext_get l a 4 j hj hl, h j hj]; simp
  · rw [Array.getElem?_eq_none (by simp; omega), Array.getElem?_eq_none (by simp; omega)]
theorem eqB41 {d : Nat} (l : List Value) (a : Nat) (L : Nat → Bool) (hl : a + 64 ≤ l.length) (h : ∀ t, t < 64 → l[a + t]? = some (.bool (L t))) : EqOk Try.prog (d + 3) 41 (.agg (l.toArray.extract a (a + 64))) (.agg (l.toArray.extract a (a + 64))) true := by
  have g : ∀ i, i < 64 → ∀ w, (part 4 (l.toArray.extract a (a + 64)) (i * 1)).run Try.prog w = .ok (.bool (L i)) w := fun i hi w => run_part1 one4 (by rw [Nat.mul_one, ext_get l a 64 i hi hl, h i hi])
  have := eq_arr (d := d + 2) (len := 64) Try.underlying41 sz4 _ _ (fun _ => true) (fun i => .bool (L i)) (fun i => .bool (L i)) g g (fun i _ => by
    have := eq_bool (d := d + 1) Try.underlying4 (L i) (L i)
    simpa using this)
  rw [show ((List.range 64).all fun _ => true) = true from by decide] at this
  exact this
theorem eqW42 {d : Nat} (l : List Value) (a : Nat) (H : Nat → Nat) (hH : ∀ t, H t < 115792089237316195423570985008687907853269984665640564039457584007913129639936) (hl : a + 256 ≤ l.length) (h : ∀ t, t < 64 → ∀ j, j < 4 → l[a + t * 4 + j]? = (wc (H t))[j]?) : EqOk Try.prog (d + 3) 42 (.agg (l.toArray.extract a (a + 256))) (.agg (l.toArray.extract a (a + 256))) true := by
  have g : ∀ i, i < 64 → ∀ w, (part 29 (l.toArray.extract a (a + 256)) (i * 4)).run Try.prog w = .ok (wv (H i)) w := fun i hi w => by
    rw [run_partA agg29 sz29]
    congr 2
    apply Array.ext_getElem?
    intro j
    by_cases hj : j < 4
    · rw [Array.getElem?_extract, if_pos (by simp; omega), ext_get l a 256 _ (by omega) hl, ← Nat.add_assoc, h i hi j hj]; simp
    · rw [Array.getElem?_eq_none (by simp; omega), Array.getElem?_eq_none (by simp; omega)]
  have := eq_arr (d := d + 2) (len := 64) Try.underlying42 sz29 _ _ (fun _ => true) (fun i => wv (H i)) (fun i => wv (H i)) g g (fun i _ => by
    have := eqW29 (d := d) (H i) (H i) (hH i) (hH i)
    simpa using this)
  rw [show ((List.range 64).all fun _ => true) = true from by decide] at this
  exact this
theorem eq44 {d : Nat} (L S : Nat → Bool) (H : Nat → Nat) (k : Nat) (hH : ∀ t, H t < 115792089237316195423570985008687907853269984665640564039457584007913129639936) (hk : k < 115792089237316195423570985008687907853269984665640564039457584007913129639936) : EqOk Try.prog (d + 4) 44 (.agg (seenC L S H k).toArray) (.agg (seenC L S H k).toArray) true := by
  have hs := length_seen L S H k
  refine eq_structT Try.underlying44 st44 _ ?_
  intro f hf w
  simp only [List.mem_cons, List.not_mem_nil, or_false] at hf
  rcases hf with rfl | rfl | rfl | rfl
  · exact ⟨_, run_partA agg41 sz41, eqB41 _ 0 L (by omega) fun t ht => by rw [Nat.zero_add]; exact seen_L _ _ _ _ ht⟩
  · exact ⟨_, run_partA agg41 sz41, eqB41 _ 64 S (by omega) fun t ht => seen_S _ _ _ _ ht⟩
  · exact ⟨_, run_partA agg42 sz42, eqW42 _ 128 H hH (by omega) fun t ht j hj => seen_H _ _ _ _ ht hj⟩
  · refine ⟨_, run_partA agg29 sz29, ?_⟩
    rw [ext_wide _ 384 k (by omega) fun j _ => seen_K _ _ _ _ j]
    have := eqW29 (d := d + 1) k k hk hk
    simpa using this
theorem R.neq44 {ρ : Operand → Value} {dst : Option Tmp} {ty : TypeId} {pos : String} {af : Array Edge} {g : Option (Nat × Bool)} {a b : Operand} {T' : TypeId} {w : World} {V : Vau} {n k : Nat}
    (ha : ρ a = .agg (lookC V n k).toArray) (hb : ρ b = .agg (lookC V n k).toArray) (hH : ∀ t, tH (V.tok t) < 115792089237316195423570985008687907853269984665640564039457584007913129639936) (hk : k < 115792089237316195423570985008687907853269984665640564039457584007913129639936) :
    (execOp ρ ⟨dst, .binOp .neq 44 a b T', ty, pos, af, g⟩).run Try.prog w = .ok (.value (.bool (!true))) w :=
  R.neqAgg ha hb (eq44 (d := 9996) _ _ _ _ (fun t => by by_cases h : t < n <;> simp only [h, if_true, if_false]; exact hH t; decide) hk) eg44

theorem look_calls (bv : Nat) (V : Vau) (s : Seg) (w0 : World) (hV : VaultS bv V s) (ho : Own w0 s) : Ret Try.prog 26 [.pointer (some ⟨bv, 0, none⟩)] w0 (s.map (·.1)) (fun v s' => v = .agg (lookC V 64 V.lock).toArray ∧ s' = s) := by
  refine fn_start Try.func26 rfl Try.ntmps26 rfl [(0, .pointer (some ⟨bv, 0, none⟩))] ⟨rfl, trivial⟩ ?_
  intro Q a hP hF hR hN
  have hS := St.enter ho
  refine wp_seq_k fun K1 hK1 => ?_
  refine wp_region_lit ?_
  refine so (wn rfl) (O.alloc rfl rfl hF ze44s rfl hS fun b2 a w hF hS => ?_)
  refine s0 ?_
  refine then_n (hK1 _ _ ?_)
  refine wp_seq_k fun K2 hK2 => ?_
  refine wp_region_lit ?_
  refine so (wn rfl) (O.alloc rfl rfl hF ze44s rfl hS fun b3 a w hF hS => ?_)
  refine s0 ?_
  refine then_n (hK2 _ _ ?_)
  refine wp_seq_k fun K3 hK3 => ?_
  refine wp_seq_k fun K4 hK4 => ?_
  refine wp_region_lit ?_
  refine sv' hF (wn rfl) rfl rfl (R.assign (hF.ev rfl)) fun a hF => ?_
  refine s0 ?_
  refine then_n (hK4 _ _ ?_)
  refine wp_block ?_
  refine wp_loop_N (fun g a w => ∃ (t : Nat), 64 - t = g ∧ Fr 31 [(0, .pointer (some ⟨bv, 0, none⟩)), (2, .pointer (some ⟨b2, 0, none⟩)), (3, .pointer (some ⟨b3, 0, none⟩)), (4, .int .i64 (t : Nat))] a ∧ St w0 (s.map (·.1)) [s, [(b3, Cel (lookC V t 0) 44)], [(b2, Cel (lookC V 0 0) 44)]] w ∧ (t ≤ 64)) (64 - 0) ?_ ?_
  · exact ⟨0, rfl, hF.sub ⟨rfl, rfl, rfl, rfl, trivial⟩, hS.sel [2, 0, 1] rfl rfl, by omega⟩
  · rintro KL1 g a w ⟨t, hg1, hF, hS, ht⟩ hKL1
    refine wp_seq_k fun K5 hK5 => ?_
    refine wp_seq_k fun K6 hK6 => ?_
    refine wp_region_lit ?_
    refine sv' hF (wn rfl) rfl rfl (R.move (hF.ev rfl)) fun a hF => ?_
    refine sv' hF (wn rfl) rfl rfl (R.lss (hF.ev rfl) (hF.ev rfl)) fun a hF => ?_
    refine s0 ?_
    refine then_n (hK6 _ _ ?_)
    refine cD hF rfl (fun c1 => ?_) (fun c1 => ?_)
    ·
      refine wp_skip ?_
      refine then_n (hK5 _ _ ?_)
      refine wp_seq_k fun K7 hK7 => ?_
      refine wp_block ?_
      refine wp_seq_k fun K8 hK8 => ?_
      refine wp_region_lit ?_
      refine sv' hF (wn rfl) rfl rfl (R.move (hF.ev rfl)) fun a hF => ?_
      refine sv' hF (wn rfl) rfl rfl (R.move (hF.ev rfl)) fun a hF => ?_
      refine sv' hF (wn rfl) rfl rfl (R.move (hF.ev rfl)) fun a hF => ?_
      refine sv' hF (wn rfl) rfl rfl (R.move (hF.ev rfl)) fun a hF => ?_
      refine so (wn rfl) (O.callK rfl rfl hF ent72 (hF.evs rfl) hS (isListed_calls bv _ (t : Nat) _ _ hV (hS.own1 .h)) (fun _ => .h) fun v s14 a w hR hF hS => ?_)
      obtain ⟨rfl, he⟩ := hR
      rw [he] at hS
      refine sv' hF (wn rfl) rfl rfl (R.move (hF.ev rfl)) fun a hF => ?_
      refine sv' hF (wn rfl) rfl rfl (R.extract (hF.ev rfl) rfl) fun a hF => ?_
      refine sv' hF (wn rfl) rfl rfl (R.extract (hF.ev rfl) rfl) fun a hF => ?_
      refine sv' hF (wn rfl) rfl rfl (R.fieldAddr (k := 0) Try.underlying44 rfl nz41 (hF.ev rfl) rfl) fun a hF => ?_
      refine sv' hF (wn rfl) rfl rfl (R.indexA Try.underlying41 sz4 (hF.ev rfl) (hF.ev rfl) (by omega) (by omega)) fun a hF => ?_
      refine so (wn rfl) (O.store sz4 (hF.ev rfl) (hF.ev rfl) rfl rfl hS (.t .h) (seen_setL' (t := t) (by simp) (by omega) _) (by rw [length_look]; show 0 + 0 + t * 1 < 388; omega) fun w hS => ?_)
      refine sv' hF (wn rfl) rfl rfl (R.fieldAddr (k := 64) Try.underlying44 rfl nz41 (hF.ev rfl) rfl) fun a hF => ?_
      refine sv' hF (wn rfl) rfl rfl (R.indexA Try.underlying41 sz4 (hF.ev rfl) (hF.ev rfl) (by omega) (by omega)) fun a hF => ?_
      refine so (wn rfl) (O.store sz4 (hF.ev rfl) (hF.ev rfl) rfl rfl hS (.t .h) (seen_setS' (t := t) (by simp) (by omega) _) (by rw [length_seen]; show 0 + 64 + t * 1 < 388; omega) fun w hS => ?_)
      refine s0 ?_
      refine then_n (hK8 _ _ ?_)
      refine wp_region_lit ?_
      refine sv' hF (wn rfl) rfl rfl (R.move (hF.ev rfl)) fun a hF => ?_
      refine sv' hF (wn rfl) rfl rfl (R.move (hF.ev rfl)) fun a hF => ?_
      refine sv' hF (wn rfl) rfl rfl (R.move (hF.ev rfl)) fun a hF => ?_
      refine so (wn rfl) (O.callK rfl rfl hF ent25 (hF.evs rfl) hS (held_calls bv _ (t : Nat) _ _ hV (hS.own1 .h)) (fun _ => .h) fun v s24 a w hR hF hS => ?_)
      obtain ⟨rfl, he⟩ := hR
      rw [he] at hS
      refine sv' hF (wn rfl) rfl rfl (R.fieldAddr (k := 128) Try.underlying44 rfl nz42 (hF.ev rfl) rfl) fun a hF => ?_
      refine sv' hF (wn rfl) rfl rfl (R.indexA Try.underlying42 sz29 (hF.ev rfl) (hF.ev rfl) (by omega) (by omega)) fun a hF => ?_
      refine so (wn rfl) (O.storeA sz29 (hF.ev rfl) (hF.ev rfl) rfl rfl (by simp [Value.oneCell']) hS (.t .h) (seen_splH' (t := t) (by simp) (by omega) _) (by rw [length_seen]; show 0 + 128 + t * 4 + 4 ≤ 388; omega) fun w hS => ?_)
      refine s0 ?_
      refine blk_n ?_
      refine then_n (hK7 _ _ ?_)
      refine wp_region_lit ?_
      refine sv' hF (wn rfl) rfl rfl (R.move (hF.ev rfl)) fun a hF => ?_
      refine sv' hF (wn rfl) rfl rfl (R.addI (hF.ev rfl) (hF.ev rfl) (by omega)) fun a hF => ?_
      refine sv' hF (wn rfl) rfl rfl (R.assign (hF.ev rfl)) fun a hF => ?_
      refine s0 ?_
      rw [look_succ V t] at hS
      refine then_n (hKL1 (64 - (t + 1)) _ _ ?_ ?_)
      · omega
      · exact ⟨t + 1, rfl, hF.sub ⟨rfl, rfl, rfl, rfl, trivial⟩, hS.sel [0, 1, 2] rfl rfl, by omega⟩
    ·
      obtain rfl : t = 64 := by omega
      refine wp_exit (then_x (then_x (blk_hit ?_)))
      refine then_n (hK3 _ _ ?_)
      refine wp_seq_k fun K9 hK9 => ?_
      refine wp_region_lit ?_
      refine sv' hF (wn rfl) rfl rfl (R.move (hF.ev rfl)) fun a hF => ?_
      refine so (wn rfl) (O.callK rfl rfl hF ent24 (hF.evs rfl) hS (locked_calls bv _ _ _ hV (hS.own1 .h)) (fun _ => .h) fun v s28 a w hR hF hS => ?_)
      obtain ⟨rfl, he⟩ := hR
      rw [he] at hS
      refine sv' hF (wn rfl) rfl rfl (R.fieldAddr (k := 384) Try.underlying44 rfl nz29 (hF.ev rfl) rfl) fun a hF => ?_
      refine so (wn rfl) (O.storeA sz29 (hF.ev rfl) (hF.ev rfl) rfl rfl (by simp [Value.oneCell']) hS (.t .h) (show _ = lookC V 64 V.lock from seen_splK _) (by rw [length_look]; exact Nat.le_refl 388) fun w hS => ?_)
      refine s0 ?_
      refine then_n (hK9 _ _ ?_)
      refine wp_seq_k fun K10 hK10 => ?_
      refine wp_region_lit ?_
      refine sv' hF (wn rfl) rfl rfl (R.loadW agg44 (hF.ev rfl) hS (.t .h) sz44 (length_look _ _ _)) fun a hF => ?_
      refine so (wn rfl) (O.storeW sz44 (hF.ev rfl) (hF.ev rfl) (length_look _ _ _) rfl (one_look _ _ _) hS (.t (.t .h)) ((length_look _ _ _).trans (length_look _ _ _).symm) fun w hS => ?_)
      refine s0 ?_
      refine then_n (hK10 _ _ ?_)
      refine wp_ret (hR _ _ _ _ _ hF (run_results Try.results26 (.cw hF rfl agg44 hS (.t (.t .h)) sz44 (length_look _ _ _) (.nil))) ?_)
      exact ⟨_, s, rfl, ⟨rfl, rfl⟩, hS.one .h⟩

end Go.Proofs.Ythgecfjpacebeaa
