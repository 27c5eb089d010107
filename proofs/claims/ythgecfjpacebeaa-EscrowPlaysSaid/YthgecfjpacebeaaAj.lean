/- The questions to the reference's vault. -/
import Derived.Test.YthgecfjpacebeaaAi
namespace Go.Proofs.Ythgecfjpacebeaa
open Go Go.Fw Go.RowKit
attribute [local irreducible] Go.Oper.wp Go.Code.wp Go.wpList Go.Fw.WL Go.Calls
theorem rListed_calls (rb : Nat) (l : List Ac) (s : Seg) (t : Int) (w0 : World) (hV : RefS rb l s) (ho : Own w0 s) (hok : AcsOk l) (hc : l.length ≤ 9223372036854775806) : Ret Try.prog 90 [.pointer (some ⟨rb, 0, none⟩), .int .i64 t] w0 (s.map (·.1)) (fun v s' => v = .tuple [.bool (lisR l t).1, .bool (lisR l t).2].toArray ∧ s' = s) := by
  refine fn_start Try.func90 rfl Try.ntmps90 rfl [(0, .pointer (some ⟨rb, 0, none⟩)), (1, .int .i64 t)] ⟨rfl, rfl, trivial⟩ ?_
  intro Q a hP hF hR hN
  have hS := St.enter ho
  refine wp_seq_k fun K1 hK1 => ?_
  obtain ⟨A, c, sg, rfl, hO⟩ := hV; have hS := hS.flat (bs' := [[(rb, Cel [.slice A l.length c] 115)], sg]) (by simp)
  refine wp_region_lit ?_
  refine sv' hF (wn rfl) rfl rfl (R.assign (hF.ev rfl)) fun a hF => ?_
  refine sv' hF (wn rfl) rfl rfl (R.assign (hF.ev rfl)) fun a hF => ?_
  refine s0 ?_
  refine then_n (hK1 _ _ ?_)
  refine wp_seq_k fun K2 hK2 => ?_
  refine wp_region_lit ?_
  refine sv' hF (wn rfl) rfl rfl (R.assign (hF.ev rfl)) fun a hF => ?_
  refine s0 ?_
  refine then_n (hK2 _ _ ?_)
  refine wp_seq_k fun K3 hK3 => ?_
  refine wp_region_lit ?_
  refine sv' hF (wn rfl) rfl rfl (R.assign (hF.ev rfl)) fun a hF => ?_
  refine s0 ?_
  refine then_n (hK3 _ _ ?_)
  refine wp_seq_k fun K4 hK4 => ?_
  refine wp_seq_k fun K5 hK5 => ?_
  refine wp_region_lit ?_
  refine sv' hF (wn rfl) rfl rfl (R.assign (hF.ev rfl)) fun a hF => ?_
  refine s0 ?_
  refine then_n (hK5 _ _ ?_)
  refine wp_block ?_
  refine wp_loop_N (fun g a w => ∃ (i : Nat), l.length - i = g ∧ Fr 44 [(0, .pointer (some ⟨rb, 0, none⟩)), (1, .int .i64 t), (6, .bool (lisR (l.take i) t).1), (7, .bool (lisR (l.take i) t).2), (8, .int .i64 ((i : Nat) : Int))] a ∧ St w0 (List.map (·.1) ((rb, Cel [.slice A l.length c] 115) :: sg)) [[(rb, Cel [.slice A l.length c] 115)], sg] w ∧ (i ≤ l.length)) (l.length - 0) ?_ ?_
  · exact ⟨0, rfl, hF.sub ⟨rfl, rfl, rfl, rfl, rfl, trivial⟩, hS.sel [0, 1] rfl rfl, by omega⟩
  · rintro KL1 g a w ⟨i, hg1, hF, hS, hi⟩ hKL1
    refine wp_seq_k fun K6 hK6 => ?_
    refine wp_seq_k fun K7 hK7 => ?_
    refine wp_region_lit ?_
    refine sv' hF (wn rfl) rfl rfl (R.move (hF.ev rfl)) fun a hF => ?_
    refine sv' hF (wn rfl) rfl rfl (R.move (hF.ev rfl)) fun a hF => ?_
    refine sv' hF (wn rfl) rfl rfl (R.nilCheck (hF.ev rfl)) fun a hF => ?_
    refine sv' hF (wn rfl) rfl rfl (R.fieldAddr (k := 0) Try.underlying115 rfl nz113 (hF.ev rfl) rfl) fun a hF => ?_
    refine sv' hF (wn rfl) rfl rfl (R.load one113 (hF.ev rfl) hS .h (rfl)) fun a hF => ?_
    refine sv' hF (wn rfl) rfl rfl (R.len Try.underlying113 (hF.ev rfl)) fun a hF => ?_
    refine sv' hF (wn rfl) rfl rfl (R.lss (hF.ev rfl) (hF.ev rfl)) fun a hF => ?_
    refine s0 ?_
    refine then_n (hK7 _ _ ?_)
    refine cD hF rfl (fun c1 => ?_) (fun c1 => ?_)
    ·
      obtain ⟨p, hp⟩ : ∃ p, l[i]? = some p := ⟨_, List.getElem?_eq_getElem (by omega)⟩
      have hpa := hok p (List.mem_of_getElem? hp)
      refine wp_skip ?_
      refine then_n (hK6 _ _ ?_)
      refine wp_seq_k fun K8 hK8 => ?_
      have hK8' : ∀ a w, (Fr 44 [(0, .pointer (some ⟨rb, 0, none⟩)), (1, .int .i64 t), (6, .bool (lisR (l.take (i + 1)) t).1), (7, .bool (lisR (l.take (i + 1)) t).2), (8, .int .i64 ((i : Nat) : Int))] a ∧ St w0 (List.map (·.1) ((rb, Cel [.slice A l.length c] 115) :: sg)) [[(rb, Cel [.slice A l.length c] 115)], sg] w) → K8 a w := by
        rintro a w ⟨hF, hS⟩
        refine hK8 _ _ ?_
        refine wp_region_lit ?_
        refine sv' hF (wn rfl) rfl rfl (R.move (hF.ev rfl)) fun a hF => ?_
        refine sv' hF (wn rfl) rfl rfl (R.addI (hF.ev rfl) (hF.ev rfl) (by omega)) fun a hF => ?_
        refine sv' hF (wn rfl) rfl rfl (R.assign (hF.ev rfl)) fun a hF => ?_
        refine s0 ?_
        refine then_n (hKL1 (l.length - (i + 1)) _ _ ?_ ?_)
        · omega
        · exact ⟨i + 1, rfl, hF.sub ⟨rfl, rfl, rfl, rfl, rfl, trivial⟩, hS.sel [0, 1] rfl rfl, by omega⟩
      refine wp_block ?_
      refine wp_seq_k fun K9 hK9 => ?_
      refine wp_seq_k fun K10 hK10 => ?_
      refine wp_region_lit ?_
      refine sv' hF (wn rfl) rfl rfl (R.move (hF.ev rfl)) fun a hF => ?_
      refine sv' hF (wn rfl) rfl rfl (R.nilCheck (hF.ev rfl)) fun a hF => ?_
      refine sv' hF (wn rfl) rfl rfl (R.fieldAddr (k := 0) Try.underlying115 rfl nz113 (hF.ev rfl) rfl) fun a hF => ?_
      refine sv' hF (wn rfl) rfl rfl (R.load one113 (hF.ev rfl) hS .h (rfl)) fun a hF => ?_
      refine sv' hF (wn rfl) rfl rfl (R.move (hF.ev rfl)) fun a hF => ?_
      refine sv' hF (wn rfl) rfl rfl (R.indexO Try.underlying113 sz139 (hF.ev rfl) (Rd.ne (hO.rd hS (.t .h)) (by rw [acs_length]; omega)) (hF.ev rfl) (by omega) (by omega)) fun a hF => ?_
      refine sv' hF (wn rfl) rfl rfl (R.fieldAddrO (m := 2) Try.underlying139 rfl nz3 (hF.ev rfl) (Rd.ne (hO.rd hS (.t .h)) (by rw [acs_length]; omega)) rfl) fun a hF => ?_
      refine sv' hF (wn rfl) rfl rfl (R.loadO one3 (hF.ev rfl) (hO.rd hS (.t .h)) (ac_at (j := 2) hp rfl)) fun a hF => ?_
      refine sv' hF (wn rfl) rfl rfl (R.move (hF.ev rfl)) fun a hF => ?_
      refine sv' hF (wn rfl) rfl rfl (R.neq (hF.ev rfl) (hF.ev rfl)) fun a hF => ?_
      refine s0 ?_
      refine then_n (hK10 _ _ ?_)
      refine cD hF rfl (fun c2 => ?_) (fun c2 => ?_)
      ·
        refine wp_exit (then_x (blk_hit ?_))
        exact then_n (hK8' _ _ ⟨hF.sub ⟨rfl, rfl, (congrArg (fun z => some (Value.bool z)) (show _ = (lisR (l.take (i + 1)) t).1 from by rw [show lisR (l.take (i + 1)) t = lisStep t (lisR (l.take i) t) p from foldl_succ (lisStep t) _ l i p hp]; simp [lisStep, c2])), (congrArg (fun z => some (Value.bool z)) (show _ = (lisR (l.take (i + 1)) t).2 from by rw [show lisR (l.take (i + 1)) t = lisStep t (lisR (l.take i) t) p from foldl_succ (lisStep t) _ l i p hp]; simp [lisStep, c2])), rfl, trivial⟩, hS.sel [0, 1] rfl rfl⟩)
      ·
        refine wp_skip ?_
        refine then_n (hK9 _ _ ?_)
        refine wp_seq_k fun K11 hK11 => ?_
        refine wp_region_lit ?_
        refine sv' hF (wn rfl) rfl rfl (R.move (hF.ev rfl)) fun a hF => ?_
        refine sv' hF (wn rfl) rfl rfl (R.nilCheck (hF.ev rfl)) fun a hF => ?_
        refine sv' hF (wn rfl) rfl rfl (R.fieldAddr (k := 0) Try.underlying115 rfl nz113 (hF.ev rfl) rfl) fun a hF => ?_
        refine sv' hF (wn rfl) rfl rfl (R.load one113 (hF.ev rfl) hS .h (rfl)) fun a hF => ?_
        refine sv' hF (wn rfl) rfl rfl (R.move (hF.ev rfl)) fun a hF => ?_
        refine sv' hF (wn rfl) rfl rfl (R.indexO Try.underlying113 sz139 (hF.ev rfl) (Rd.ne (hO.rd hS (.t .h)) (by rw [acs_length]; omega)) (hF.ev rfl) (by omega) (by omega)) fun a hF => ?_
        refine sv' hF (wn rfl) rfl rfl (R.fieldAddrO (m := 0) Try.underlying139 rfl nz3 (hF.ev rfl) (Rd.ne (hO.rd hS (.t .h)) (by rw [acs_length]; omega)) rfl) fun a hF => ?_
        refine sv' hF (wn rfl) rfl rfl (R.loadO one3 (hF.ev rfl) (hO.rd hS (.t .h)) (ac_at (j := 0) hp rfl)) fun a hF => ?_
        refine s0 ?_
        refine then_n (hK11 _ _ ?_)
        refine wp_block ?_
        refine wp_seq_k fun K12 hK12 => ?_
        refine wp_region_lit ?_
        refine sv' hF (wn rfl) rfl rfl (R.eql (hF.ev rfl) (hF.ev rfl)) fun a hF => ?_
        refine sv' hF (wn rfl) rfl rfl (R.assign (hF.ev rfl)) fun a hF => ?_
        refine s0 ?_
        refine then_n (hK12 _ _ ?_)
        refine cD hF rfl (fun c3 => ?_) (fun c3 => ?_)
        ·
          refine wp_region_lit ?_
          refine sv' hF (wn rfl) rfl rfl (R.assign (hF.ev rfl)) fun a hF => ?_
          refine s0 ?_
          refine blk_n ?_
          refine blk_n ?_
          exact then_n (hK8' _ _ ⟨hF.sub ⟨rfl, rfl, (congrArg (fun z => some (Value.bool z)) (show _ = (lisR (l.take (i + 1)) t).1 from by rw [show lisR (l.take (i + 1)) t = lisStep t (lisR (l.take i) t) p from foldl_succ (lisStep t) _ l i p hp]; simp [lisStep, c2, c3])), (congrArg (fun z => some (Value.bool z)) (show _ = (lisR (l.take (i + 1)) t).2 from by rw [show lisR (l.take (i + 1)) t = lisStep t (lisR (l.take i) t) p from foldl_succ (lisStep t) _ l i p hp]; simp [lisStep, c2, c3])), rfl, trivial⟩, hS.sel [0, 1] rfl rfl⟩)
        ·
          refine wp_seq_k fun K13 hK13 => ?_
          refine wp_region_lit ?_
          refine sv' hF (wn rfl) rfl rfl (R.eql (hF.ev rfl) (hF.ev rfl)) fun a hF => ?_
          refine sv' hF (wn rfl) rfl rfl (R.assign (hF.ev rfl)) fun a hF => ?_
          refine s0 ?_
          refine then_n (hK13 _ _ ?_)
          refine cD hF rfl (fun c4 => ?_) (fun c4 => ?_)
          ·
            refine wp_region_lit ?_
            refine sv' hF (wn rfl) rfl rfl (R.assign (hF.ev rfl)) fun a hF => ?_
            refine s0 ?_
            refine blk_n ?_
            refine blk_n ?_
            exact then_n (hK8' _ _ ⟨hF.sub ⟨rfl, rfl, (congrArg (fun z => some (Value.bool z)) (show _ = (lisR (l.take (i + 1)) t).1 from by rw [show lisR (l.take (i + 1)) t = lisStep t (lisR (l.take i) t) p from foldl_succ (lisStep t) _ l i p hp]; simp [lisStep, c2, c3, c4])), (congrArg (fun z => some (Value.bool z)) (show _ = (lisR (l.take (i + 1)) t).2 from by rw [show lisR (l.take (i + 1)) t = lisStep t (lisR (l.take i) t) p from foldl_succ (lisStep t) _ l i p hp]; simp [lisStep, c2, c3, c4])), rfl, trivial⟩, hS.sel [0, 1] rfl rfl⟩)
          ·
            refine wp_seq_k fun K14 hK14 => ?_
            refine wp_region_lit ?_
            refine sv' hF (wn rfl) rfl rfl (R.eql (hF.ev rfl) (hF.ev rfl)) fun a hF => ?_
            refine sv' hF (wn rfl) rfl rfl (R.assign (hF.ev rfl)) fun a hF => ?_
            refine s0 ?_
            refine then_n (hK14 _ _ ?_)
            refine cD hF rfl (fun c5 => ?_) (fun c5 => ?_)
            ·
              refine wp_region_lit ?_
              refine sv' hF (wn rfl) rfl rfl (R.assign (hF.ev rfl)) fun a hF => ?_
              refine s0 ?_
              refine blk_n ?_
              refine blk_n ?_
              exact then_n (hK8' _ _ ⟨hF.sub ⟨rfl, rfl, (congrArg (fun z => some (Value.bool z)) (show _ = (lisR (l.take (i + 1)) t).1 from by rw [show lisR (l.take (i + 1)) t = lisStep t (lisR (l.take i) t) p from foldl_succ (lisStep t) _ l i p hp]; simp [lisStep, c2, c3, c4, c5])), (congrArg (fun z => some (Value.bool z)) (show _ = (lisR (l.take (i + 1)) t).2 from by rw [show lisR (l.take (i + 1)) t = lisStep t (lisR (l.take i) t) p from foldl_succ (lisStep t) _ l i p hp]; simp [lisStep, c2, c3, c4, c5])), rfl, trivial⟩, hS.sel [0, 1] rfl rfl⟩)
            ·
              refine wp_skip ?_
              refine blk_n ?_
              refine blk_n ?_
              exact then_n (hK8' _ _ ⟨hF.sub ⟨rfl, rfl, (congrArg (fun z => some (Value.bool z)) (show _ = (lisR (l.take (i + 1)) t).1 from by rw [show lisR (l.take (i + 1)) t = lisStep t (lisR (l.take i) t) p from foldl_succ (lisStep t) _ l i p hp]; simp [lisStep, c2, c3, c4, c5])), (congrArg (fun z => some (Value.bool z)) (show _ = (lisR (l.take (i + 1)) t).2 from by rw [show lisR (l.take (i + 1)) t = lisStep t (lisR (l.take i) t) p from foldl_succ (lisStep t) _ l i p hp]; simp [lisStep, c2, c3, c4, c5])), rfl, trivial⟩, hS.sel [0, 1] rfl rfl⟩)
    ·
      obtain rfl : i = l.length := by omega
      rw [List.take_length] at hF
      refine wp_exit (then_x (then_x (blk_hit ?_)))
      refine then_n (hK4 _ _ ?_)
      refine wp_seq_k fun K15 hK15 => ?_
      refine wp_region_lit ?_
      refine sv' hF (wn rfl) rfl rfl (R.move (hF.ev rfl)) fun a hF => ?_
      refine sv' hF (wn rfl) rfl rfl (R.move (hF.ev rfl)) fun a hF => ?_
      refine sv' hF (wn rfl) rfl rfl (R.assign (hF.ev rfl)) fun a hF => ?_
      refine sv' hF (wn rfl) rfl rfl (R.assign (hF.ev rfl)) fun a hF => ?_
      refine s0 ?_
      refine then_n (hK15 _ _ ?_)
      refine wp_ret (hR _ _ _ _ _ hF (run_results Try.results90 (.t hF rfl (.t hF rfl (.nil)))) ?_)
      have hS := (hS.sel [0, 1] rfl rfl).flat (bs' := [(rb, Cel [.slice A l.length c] 115) :: sg]) (by simp [selS])
      exact ⟨_, _, rfl, ⟨rfl, rfl⟩, hS⟩

theorem held_succ {l : List Ac} {i : Nat} {p : Ac} {t : Int} (hp : l[i]? = some p) : heldR (l.take (i + 1)) t = heldStep t (heldR (l.take i) t) p := foldl_succ (heldStep t) _ l i p hp
theorem lock_succ {l : List Ac} {i : Nat} {p : Ac} (hp : l[i]? = some p) : lockR (l.take (i + 1)) = lockStep (lockR (l.take i)) p := foldl_succ lockStep _ l i p hp

theorem rHeld_calls (rb : Nat) (l : List Ac) (s : Seg) (t : Int) (w0 : World) (hV : RefS rb l s) (ho : Own w0 s) (hok : AcsOk l) (hc : l.length ≤ 9223372036854775806) : Ret Try.prog 91 [.pointer (some ⟨rb, 0, none⟩), .int .i64 t] w0 (s.map (·.1)) (fun v s' => v = wv (heldR l t) ∧ s' = s) := by
  refine fn_start Try.func91 rfl Try.ntmps91 rfl [(0, .pointer (some ⟨rb, 0, none⟩)), (1, .int .i64 t)] ⟨rfl, rfl, trivial⟩ ?_
  intro Q a hP hF hR hN
  have hS := St.enter ho
  refine wp_seq_k fun K1 hK1 => ?_
  obtain ⟨A, c, sg, rfl, hO⟩ := hV; have hS := hS.flat (bs' := [[(rb, Cel [.slice A l.length c] 115)], sg]) (by simp)
  refine wp_region_lit ?_
  refine so (wn rfl) (O.alloc rfl rfl hF ze29 rfl hS fun b4 a w hF hS => ?_)
  refine s0 ?_
  refine then_n (hK1 _ _ ?_)
  refine wp_seq_k fun K2 hK2 => ?_
  refine wp_region_lit ?_
  refine so (wn rfl) (O.alloc rfl rfl hF ze29 rfl hS fun b5 a w hF hS => ?_)
  refine s0 ?_
  refine then_n (hK2 _ _ ?_)
  refine wp_seq_k fun K3 hK3 => ?_
  refine wp_seq_k fun K4 hK4 => ?_
  refine wp_region_lit ?_
  refine sv' hF (wn rfl) rfl rfl (R.assign (hF.ev rfl)) fun a hF => ?_
  refine s0 ?_
  refine then_n (hK4 _ _ ?_)
  refine wp_block ?_
  refine wp_loop_N (fun g a w => ∃ (i : Nat), l.length - i = g ∧ Fr 65 [(0, .pointer (some ⟨rb, 0, none⟩)), (1, .int .i64 t), (4, .pointer (some ⟨b4, 0, none⟩)), (5, .pointer (some ⟨b5, 0, none⟩)), (6, .int .i64 ((i : Nat) : Int))] a ∧ St w0 (List.map (·.1) ((rb, Cel [.slice A l.length c] 115) :: sg)) [[(rb, Cel [.slice A l.length c] 115)], sg, [(b5, Cel (wc (heldR (l.take i) t)) 29)], [(b4, Cel (wc 0) 29)]] w ∧ (i ≤ l.length)) (l.length - 0) ?_ ?_
  · exact ⟨0, rfl, hF.sub ⟨rfl, rfl, rfl, rfl, rfl, trivial⟩, hS.sel [2, 3, 0, 1] rfl (by rw [show heldR (l.take 0) t = 0 from rfl]; rfl), by omega⟩
  · rintro KL1 g a w ⟨i, hg1, hF, hS, hi⟩ hKL1
    refine wp_seq_k fun K5 hK5 => ?_
    refine wp_seq_k fun K6 hK6 => ?_
    refine wp_region_lit ?_
    refine sv' hF (wn rfl) rfl rfl (R.move (hF.ev rfl)) fun a hF => ?_
    refine sv' hF (wn rfl) rfl rfl (R.move (hF.ev rfl)) fun a hF => ?_
    refine sv' hF (wn rfl) rfl rfl (R.nilCheck (hF.ev rfl)) fun a hF => ?_
    refine sv' hF (wn rfl) rfl rfl (R.fieldAddr (k := 0) Try.underlying115 rfl nz113 (hF.ev rfl) rfl) fun a hF => ?_
    refine sv' hF (wn rfl) rfl rfl (R.load one113 (hF.ev rfl) hS .h (rfl)) fun a hF => ?_
    refine sv' hF (wn rfl) rfl rfl (R.len Try.underlying113 (hF.ev rfl)) fun a hF => ?_
    refine sv' hF (wn rfl) rfl rfl (R.lss (hF.ev rfl) (hF.ev rfl)) fun a hF => ?_
    refine s0 ?_
    refine then_n (hK6 _ _ ?_)
    refine cD hF rfl (fun c1 => ?_) (fun c1 => ?_)
    ·
      obtain ⟨p, hp⟩ : ∃ p, l[i]? = some p := ⟨_, List.getElem?_eq_getElem (by omega)⟩
      have hpa := hok p (List.mem_of_getElem? hp)
      refine wp_skip ?_
      refine then_n (hK5 _ _ ?_)
      refine wp_seq_k fun K7 hK7 => ?_
      have hK7' : ∀ a w, (Fr 65 [(0, .pointer (some ⟨rb, 0, none⟩)), (1, .int .i64 t), (4, .pointer (some ⟨b4, 0, none⟩)), (5, .pointer (some ⟨b5, 0, none⟩)), (6, .int .i64 ((i : Nat) : Int))] a ∧ St w0 (List.map (·.1) ((rb, Cel [.slice A l.length c] 115) :: sg)) [[(rb, Cel [.slice A l.length c] 115)], sg, [(b5, Cel (wc (heldR (l.take (i + 1)) t)) 29)], [(b4, Cel (wc 0) 29)]] w) → K7 a w := by
        rintro a w ⟨hF, hS⟩
        refine hK7 _ _ ?_
        refine wp_region_lit ?_
        refine sv' hF (wn rfl) rfl rfl (R.move (hF.ev rfl)) fun a hF => ?_
        refine sv' hF (wn rfl) rfl rfl (R.addI (hF.ev rfl) (hF.ev rfl) (by omega)) fun a hF => ?_
        refine sv' hF (wn rfl) rfl rfl (R.assign (hF.ev rfl)) fun a hF => ?_
        refine s0 ?_
        refine then_n (hKL1 (l.length - (i + 1)) _ _ ?_ ?_)
        · omega
        · exact ⟨i + 1, rfl, hF.sub ⟨rfl, rfl, rfl, rfl, rfl, trivial⟩, hS.sel [0, 1, 2, 3] rfl rfl, by omega⟩
      refine wp_block ?_
      refine wp_seq_k fun K8 hK8 => ?_
      refine wp_seq_k fun K9 hK9 => ?_
      refine wp_region_lit ?_
      refine sv' hF (wn rfl) rfl rfl (R.move (hF.ev rfl)) fun a hF => ?_
      refine sv' hF (wn rfl) rfl rfl (R.nilCheck (hF.ev rfl)) fun a hF => ?_
      refine sv' hF (wn rfl) rfl rfl (R.fieldAddr (k := 0) Try.underlying115 rfl nz113 (hF.ev rfl) rfl) fun a hF => ?_
      refine sv' hF (wn rfl) rfl rfl (R.load one113 (hF.ev rfl) hS .h (rfl)) fun a hF => ?_
      refine sv' hF (wn rfl) rfl rfl (R.move (hF.ev rfl)) fun a hF => ?_
      refine sv' hF (wn rfl) rfl rfl (R.indexO Try.underlying113 sz139 (hF.ev rfl) (Rd.ne (hO.rd hS (.t .h)) (by rw [acs_length]; omega)) (hF.ev rfl) (by omega) (by omega)) fun a hF => ?_
      refine sv' hF (wn rfl) rfl rfl (R.fieldAddrO (m := 2) Try.underlying139 rfl nz3 (hF.ev rfl) (Rd.ne (hO.rd hS (.t .h)) (by rw [acs_length]; omega)) rfl) fun a hF => ?_
      refine sv' hF (wn rfl) rfl rfl (R.loadO one3 (hF.ev rfl) (hO.rd hS (.t .h)) (ac_at (j := 2) hp rfl)) fun a hF => ?_
      refine sv' hF (wn rfl) rfl rfl (R.move (hF.ev rfl)) fun a hF => ?_
      refine sv' hF (wn rfl) rfl rfl (R.neq (hF.ev rfl) (hF.ev rfl)) fun a hF => ?_
      refine s0 ?_
      refine then_n (hK9 _ _ ?_)
      refine cD hF rfl (fun c2 => ?_) (fun c2 => ?_)
      ·
        refine wp_exit (then_x (blk_hit ?_))
        exact then_n (hK7' _ _ ⟨hF.sub ⟨rfl, rfl, rfl, rfl, rfl, trivial⟩, hS.sel [0, 1, 2, 3] rfl (by rw [held_succ hp, heldStep, if_pos c2]; rfl)⟩)
      ·
        refine wp_skip ?_
        refine then_n (hK8 _ _ ?_)
        refine wp_seq_k fun K10 hK10 => ?_
        refine wp_region_lit ?_
        refine sv' hF (wn rfl) rfl rfl (R.move (hF.ev rfl)) fun a hF => ?_
        refine sv' hF (wn rfl) rfl rfl (R.nilCheck (hF.ev rfl)) fun a hF => ?_
        refine sv' hF (wn rfl) rfl rfl (R.fieldAddr (k := 0) Try.underlying115 rfl nz113 (hF.ev rfl) rfl) fun a hF => ?_
        refine sv' hF (wn rfl) rfl rfl (R.load one113 (hF.ev rfl) hS .h (rfl)) fun a hF => ?_
        refine sv' hF (wn rfl) rfl rfl (R.move (hF.ev rfl)) fun a hF => ?_
        refine sv' hF (wn rfl) rfl rfl (R.indexO Try.underlying113 sz139 (hF.ev rfl) (Rd.ne (hO.rd hS (.t .h)) (by rw [acs_length]; omega)) (hF.ev rfl) (by omega) (by omega)) fun a hF => ?_
        refine sv' hF (wn rfl) rfl rfl (R.fieldAddrO (m := 0) Try.underlying139 rfl nz3 (hF.ev rfl) (Rd.ne (hO.rd hS (.t .h)) (by rw [acs_length]; omega)) rfl) fun a hF => ?_
        refine sv' hF (wn rfl) rfl rfl (R.loadO one3 (hF.ev rfl) (hO.rd hS (.t .h)) (ac_at (j := 0) hp rfl)) fun a hF => ?_
        refine s0 ?_
        refine then_n (hK10 _ _ ?_)
        refine wp_block ?_
        refine wp_seq_k fun K11 hK11 => ?_
        refine wp_region_lit ?_
        refine sv' hF (wn rfl) rfl rfl (R.eql (hF.ev rfl) (hF.ev rfl)) fun a hF => ?_
        refine sv' hF (wn rfl) rfl rfl (R.assign (hF.ev rfl)) fun a hF => ?_
        refine s0 ?_
        refine then_n (hK11 _ _ ?_)
        refine cD hF rfl (fun c3 => ?_) (fun c3 => ?_)
        ·
          refine wp_drawS hS [(0, 1), (1, 0), (2, 0), (3, 0), (4, 1), (5, 0), (6, 0), (7, 0), (8, 1), (9, 2), (10, 0), (11, 0), (12, 0), (13, 3)] mix (by kernel_rfl) (hP.then.block.then.then.block.block) fun w hS => ?_
          have hD := hS
          refine dr hF rfl (wn rfl) rfl rfl hD (fun w hD => R.loadW agg29 (hF.ev rfl) hD (.t (.t .h)) sz29 (rfl)) fun a hF => ?_
          refine dq hF rfl (wn rfl) rfl rfl (fun w => R.move (hF.ev rfl)) fun a hF => ?_
          refine dq hF rfl (wn rfl) rfl rfl (fun w => R.nilCheck (hF.ev rfl)) fun a hF => ?_
          refine dq hF rfl (wn rfl) rfl rfl (fun w => R.fieldAddr (k := 0) Try.underlying115 rfl nz113 (hF.ev rfl) rfl) fun a hF => ?_
          refine dr hF rfl (wn rfl) rfl rfl hD (fun w hD => R.load one113 (hF.ev rfl) hD .h (rfl)) fun a hF => ?_
          refine dq hF rfl (wn rfl) rfl rfl (fun w => R.move (hF.ev rfl)) fun a hF => ?_
          refine dq hF rfl (wn rfl) rfl rfl (fun w => R.indexO Try.underlying113 sz139 (hF.ev rfl) (Rd.ne (hO.rd hS (.t .h)) (by rw [acs_length]; omega)) (hF.ev rfl) (by omega) (by omega)) fun a hF => ?_
          refine dq hF rfl (wn rfl) rfl rfl (fun w => R.fieldAddrO (m := 3) Try.underlying139 rfl nz29 (hF.ev rfl) (Rd.ne (hO.rd hS (.t .h)) (by rw [acs_length]; omega)) rfl) fun a hF => ?_
          refine dr hF rfl (wn rfl) rfl rfl hD (fun w hD => R.loadAO (cs := wc p.amt) agg29 (hF.ev rfl) (hO.rd hD (.t .h)) sz29 rfl (Nat.succ_pos _) (fun j v h => by rw [Nat.add_assoc]; exact ac_at hp (getAt (l := acL p) (cs := wc p.amt) (off := 3) rfl j v h))) fun a hF => ?_
          refine dl rfl (wn rfl) (O.call rfl rfl hF ent22 (hF.evs rfl) hS (radd_calls (heldR (l.take i) t) p.amt _ (heldR_lt _ _) hpa) fun v s46 a w hR hF hS => ⟨fun hD => hS.tail, ?_⟩)
          obtain ⟨rfl, rfl⟩ := hR
          have hD := hS.tail
          refine dq hF rfl (wn rfl) rfl rfl (fun w => R.move (hF.ev rfl)) fun a hF => ?_
          refine dq hF rfl (wn rfl) rfl rfl (fun w => R.extract (hF.ev rfl) rfl) fun a hF => ?_
          refine dq hF rfl (wn rfl) rfl rfl (fun w => R.extract (hF.ev rfl) rfl) fun a hF => ?_
          refine dw rfl (wn rfl) (O.storeW sz29 (hF.ev rfl) (hF.ev rfl) (rfl) rfl (by simp [Value.oneCell']) hS (.t (.t (.t .h))) (rfl) fun w hS => ?_)
          refine d0 ?_
          refine blk_n ?_
          refine blk_n ?_
          exact then_n (hK7' _ _ ⟨hF.sub ⟨rfl, rfl, rfl, rfl, rfl, trivial⟩, hS.sel [1, 2, 3, 4] rfl (by rw [held_succ hp, heldStep, if_neg c2, if_pos c3]; rfl)⟩)
        ·
          refine wp_seq_k fun K12 hK12 => ?_
          refine wp_region_lit ?_
          refine sv' hF (wn rfl) rfl rfl (R.eql (hF.ev rfl) (hF.ev rfl)) fun a hF => ?_
          refine sv' hF (wn rfl) rfl rfl (R.assign (hF.ev rfl)) fun a hF => ?_
          refine s0 ?_
          refine then_n (hK12 _ _ ?_)
          refine cD hF rfl (fun c4 => ?_) (fun c4 => ?_)
          ·
            refine wp_drawS hS [(0, 1), (1, 0), (2, 0), (3, 0), (4, 1), (5, 0), (6, 0), (7, 0), (8, 1), (9, 2), (10, 0), (11, 0), (12, 0), (13, 3)] mix (by kernel_rfl) (hP.then.block.then.then.block.block) fun w hS => ?_
            have hD := hS
            refine dr hF rfl (wn rfl) rfl rfl hD (fun w hD => R.loadW agg29 (hF.ev rfl) hD (.t (.t .h)) sz29 (rfl)) fun a hF => ?_
            refine dq hF rfl (wn rfl) rfl rfl (fun w => R.move (hF.ev rfl)) fun a hF => ?_
            refine dq hF rfl (wn rfl) rfl rfl (fun w => R.nilCheck (hF.ev rfl)) fun a hF => ?_
            refine dq hF rfl (wn rfl) rfl rfl (fun w => R.fieldAddr (k := 0) Try.underlying115 rfl nz113 (hF.ev rfl) rfl) fun a hF => ?_
            refine dr hF rfl (wn rfl) rfl rfl hD (fun w hD => R.load one113 (hF.ev rfl) hD .h (rfl)) fun a hF => ?_
            refine dq hF rfl (wn rfl) rfl rfl (fun w => R.move (hF.ev rfl)) fun a hF => ?_
            refine dq hF rfl (wn rfl) rfl rfl (fun w => R.indexO Try.underlying113 sz139 (hF.ev rfl) (Rd.ne (hO.rd hS (.t .h)) (by rw [acs_length]; omega)) (hF.ev rfl) (by omega) (by omega)) fun a hF => ?_
            refine dq hF rfl (wn rfl) rfl rfl (fun w => R.fieldAddrO (m := 3) Try.underlying139 rfl nz29 (hF.ev rfl) (Rd.ne (hO.rd hS (.t .h)) (by rw [acs_length]; omega)) rfl) fun a hF => ?_
            refine dr hF rfl (wn rfl) rfl rfl hD (fun w hD => R.loadAO (cs := wc p.amt) agg29 (hF.ev rfl) (hO.rd hD (.t .h)) sz29 rfl (Nat.succ_pos _) (fun j v h => by rw [Nat.add_assoc]; exact ac_at hp (getAt (l := acL p) (cs := wc p.amt) (off := 3) rfl j v h))) fun a hF => ?_
            refine dl rfl (wn rfl) (O.call rfl rfl hF ent23 (hF.evs rfl) hS (rsub_calls (heldR (l.take i) t) p.amt _ (heldR_lt _ _) hpa) fun v s61 a w hR hF hS => ⟨fun hD => hS.tail, ?_⟩)
            obtain ⟨rfl, rfl⟩ := hR
            have hD := hS.tail
            refine dq hF rfl (wn rfl) rfl rfl (fun w => R.move (hF.ev rfl)) fun a hF => ?_
            refine dq hF rfl (wn rfl) rfl rfl (fun w => R.extract (hF.ev rfl) rfl) fun a hF => ?_
            refine dq hF rfl (wn rfl) rfl rfl (fun w => R.extract (hF.ev rfl) rfl) fun a hF => ?_
            refine dw rfl (wn rfl) (O.storeW sz29 (hF.ev rfl) (hF.ev rfl) (rfl) rfl (by simp [Value.oneCell']) hS (.t (.t (.t .h))) (rfl) fun w hS => ?_)
            refine d0 ?_
            refine blk_n ?_
            refine blk_n ?_
            exact then_n (hK7' _ _ ⟨hF.sub ⟨rfl, rfl, rfl, rfl, rfl, trivial⟩, hS.sel [1, 2, 3, 4] rfl (by rw [held_succ hp, heldStep, if_neg c2, if_neg c3, if_pos c4]; rfl)⟩)
          ·
            refine wp_skip ?_
            refine blk_n ?_
            refine blk_n ?_
            exact then_n (hK7' _ _ ⟨hF.sub ⟨rfl, rfl, rfl, rfl, rfl, trivial⟩, hS.sel [0, 1, 2, 3] rfl (by rw [held_succ hp, heldStep, if_neg c2, if_neg c3, if_neg c4]; rfl)⟩)
    ·
      obtain rfl : i = l.length := by omega
      rw [List.take_length] at hS
      refine wp_exit (then_x (then_x (blk_hit ?_)))
      refine then_n (hK3 _ _ ?_)
      refine wp_seq_k fun K13 hK13 => ?_
      refine wp_region_lit ?_
      refine sv' hF (wn rfl) rfl rfl (R.loadW agg29 (hF.ev rfl) hS (.t (.t .h)) sz29 (rfl)) fun a hF => ?_
      refine so (wn rfl) (O.storeW sz29 (hF.ev rfl) (hF.ev rfl) (rfl) rfl (by simp [Value.oneCell']) hS (.t (.t (.t .h))) (rfl) fun w hS => ?_)
      refine s0 ?_
      refine then_n (hK13 _ _ ?_)
      refine wp_ret (hR _ _ _ _ _ hF (run_results Try.results91 (.cw hF rfl agg29 hS (.t (.t (.t .h))) sz29 (rfl) (.nil))) ?_)
      have hS := (hS.sel [0, 1] rfl rfl).flat (bs' := [(rb, Cel [.slice A l.length c] 115) :: sg]) (by simp [selS])
      exact ⟨_, _, rfl, ⟨rfl, rfl⟩, hS⟩

theorem rPaid_calls (rb : Nat) (l : List Ac) (s : Seg) (t : Int) (w0 : World) (hV : RefS rb l s) (ho : Own w0 s) (hok : AcsOk l) (hc : l.length ≤ 9223372036854775806) : Ret Try.prog 92 [.pointer (some ⟨rb, 0, none⟩), .int .i64 t] w0 (s.map (·.1)) (fun v s' => v = .bool (paidR l t) ∧ s' = s) := by
  refine fn_start Try.func92 rfl Try.ntmps92 rfl [(0, .pointer (some ⟨rb, 0, none⟩)), (1, .int .i64 t)] ⟨rfl, rfl, trivial⟩ ?_
  intro Q a hP hF hR hN
  have hS := St.enter ho
  refine wp_seq_k fun K1 hK1 => ?_
  obtain ⟨A, c, sg, rfl, hO⟩ := hV; have hS := hS.flat (bs' := [[(rb, Cel [.slice A l.length c] 115)], sg]) (by simp)
  refine wp_region_lit ?_
  refine sv' hF (wn rfl) rfl rfl (R.assign (hF.ev rfl)) fun a hF => ?_
  refine s0 ?_
  refine then_n (hK1 _ _ ?_)
  refine wp_seq_k fun K2 hK2 => ?_
  refine wp_seq_k fun K3 hK3 => ?_
  refine wp_region_lit ?_
  refine sv' hF (wn rfl) rfl rfl (R.assign (hF.ev rfl)) fun a hF => ?_
  refine s0 ?_
  refine then_n (hK3 _ _ ?_)
  refine wp_block ?_
  refine wp_loop_N (fun g a w => ∃ (i : Nat), l.length - i = g ∧ Fr 36 [(0, .pointer (some ⟨rb, 0, none⟩)), (1, .int .i64 t), (5, .int .i64 ((i : Nat) : Int))] a ∧ St w0 (List.map (·.1) ((rb, Cel [.slice A l.length c] 115) :: sg)) [[(rb, Cel [.slice A l.length c] 115)], sg] w ∧ (i ≤ l.length) ∧ ((l.take i).any (isPay t) = false)) (l.length - 0) ?_ ?_
  · exact ⟨0, rfl, hF.sub ⟨rfl, rfl, rfl, trivial⟩, hS.sel [0, 1] rfl rfl, by omega, rfl⟩
  · rintro KL1 g a w ⟨i, hg1, hF, hS, hi, hno⟩ hKL1
    refine wp_seq_k fun K4 hK4 => ?_
    refine wp_seq_k fun K5 hK5 => ?_
    refine wp_region_lit ?_
    refine sv' hF (wn rfl) rfl rfl (R.move (hF.ev rfl)) fun a hF => ?_
    refine sv' hF (wn rfl) rfl rfl (R.move (hF.ev rfl)) fun a hF => ?_
    refine sv' hF (wn rfl) rfl rfl (R.nilCheck (hF.ev rfl)) fun a hF => ?_
    refine sv' hF (wn rfl) rfl rfl (R.fieldAddr (k := 0) Try.underlying115 rfl nz113 (hF.ev rfl) rfl) fun a hF => ?_
    refine sv' hF (wn rfl) rfl rfl (R.load one113 (hF.ev rfl) hS .h (rfl)) fun a hF => ?_
    refine sv' hF (wn rfl) rfl rfl (R.len Try.underlying113 (hF.ev rfl)) fun a hF => ?_
    refine sv' hF (wn rfl) rfl rfl (R.lss (hF.ev rfl) (hF.ev rfl)) fun a hF => ?_
    refine s0 ?_
    refine then_n (hK5 _ _ ?_)
    refine cD hF rfl (fun c1 => ?_) (fun c1 => ?_)
    ·
      obtain ⟨p, hp⟩ : ∃ p, l[i]? = some p := ⟨_, List.getElem?_eq_getElem (by omega)⟩
      have hpa := hok p (List.mem_of_getElem? hp)
      refine wp_skip ?_
      refine then_n (hK4 _ _ ?_)
      refine wp_seq_k fun K6 hK6 => ?_
      refine wp_block ?_
      refine wp_seq_k fun K7 hK7 => ?_
      have hK7' : ∀ a w, (Fr 36 [(0, .pointer (some ⟨rb, 0, none⟩)), (1, .int .i64 t), (5, .int .i64 ((i : Nat) : Int)), (35, .bool (decide (p.what = 4 ∧ p.index = t)))] a ∧ St w0 (List.map (·.1) ((rb, Cel [.slice A l.length c] 115) :: sg)) [[(rb, Cel [.slice A l.length c] 115)], sg] w) → K7 a w := by
        rintro a w ⟨hF, hS⟩
        refine hK7 _ _ ?_
        refine cD hF rfl (fun c2 => ?_) (fun c2 => ?_)
        ·
          have hres : paidR l t = true := List.any_eq_true.2 ⟨p, List.mem_of_getElem? hp, decide_eq_true c2⟩
          refine wp_seq_k fun K8 hK8 => ?_
          refine wp_region_lit ?_
          refine sv' hF (wn rfl) rfl rfl (R.assign (hF.ev rfl)) fun a hF => ?_
          refine s0 ?_
          refine then_n (hK8 _ _ ?_)
          refine wp_ret (blk_r (then_r (then_r (blk_r (then_r (hR _ _ _ _ _ hF (run_results Try.results92 (.t hF rfl (.nil))) ?_))))))
          have hS := (hS.sel [0, 1] rfl rfl).flat (bs' := [(rb, Cel [.slice A l.length c] 115) :: sg]) (by simp [selS])
          exact ⟨_, _, rfl, ⟨by rw [hres]; rfl, rfl⟩, hS⟩
        ·
          have hno2 : (l.take (i + 1)).any (isPay t) = false := by rw [any_succ l i p _ hp, hno, Bool.false_or]; exact decide_eq_false c2
          refine wp_skip ?_
          refine blk_n ?_
          refine then_n (hK6 _ _ ?_)
          refine wp_region_lit ?_
          refine sv' hF (wn rfl) rfl rfl (R.move (hF.ev rfl)) fun a hF => ?_
          refine sv' hF (wn rfl) rfl rfl (R.addI (hF.ev rfl) (hF.ev rfl) (by omega)) fun a hF => ?_
          refine sv' hF (wn rfl) rfl rfl (R.assign (hF.ev rfl)) fun a hF => ?_
          refine s0 ?_
          refine then_n (hKL1 (l.length - (i + 1)) _ _ ?_ ?_)
          · omega
          · exact ⟨i + 1, rfl, hF.sub ⟨rfl, rfl, rfl, trivial⟩, hS.sel [0, 1] rfl rfl, by omega, hno2⟩
      refine wp_region_lit ?_
      refine sv' hF (wn rfl) rfl rfl (R.move (hF.ev rfl)) fun a hF => ?_
      refine sv' hF (wn rfl) rfl rfl (R.nilCheck (hF.ev rfl)) fun a hF => ?_
      refine sv' hF (wn rfl) rfl rfl (R.fieldAddr (k := 0) Try.underlying115 rfl nz113 (hF.ev rfl) rfl) fun a hF => ?_
      refine sv' hF (wn rfl) rfl rfl (R.load one113 (hF.ev rfl) hS .h (rfl)) fun a hF => ?_
      refine sv' hF (wn rfl) rfl rfl (R.move (hF.ev rfl)) fun a hF => ?_
      refine sv' hF (wn rfl) rfl rfl (R.indexO Try.underlying113 sz139 (hF.ev rfl) (Rd.ne (hO.rd hS (.t .h)) (by rw [acs_length]; omega)) (hF.ev rfl) (by omega) (by omega)) fun a hF => ?_
      refine sv' hF (wn rfl) rfl rfl (R.fieldAddrO (m := 0) Try.underlying139 rfl nz3 (hF.ev rfl) (Rd.ne (hO.rd hS (.t .h)) (by rw [acs_length]; omega)) rfl) fun a hF => ?_
      refine sv' hF (wn rfl) rfl rfl (R.loadO one3 (hF.ev rfl) (hO.rd hS (.t .h)) (ac_at (j := 0) hp rfl)) fun a hF => ?_
      refine sv' hF (wn rfl) rfl rfl (R.eql (hF.ev rfl) (hF.ev rfl)) fun a hF => ?_
      refine sv' hF (wn rfl) rfl rfl (R.move (hF.ev rfl)) fun a hF => ?_
      refine hF.splitD (t := 24) rfl (fun h24 hF => ?_) (fun h24 hF => ?_)
      ·
        refine sv' hF (wy hF rfl rfl rfl) rfl rfl (R.move (hF.ev rfl)) fun a hF => ?_
        refine sv' hF (wy hF rfl rfl rfl) rfl rfl (R.nilCheck (hF.ev rfl)) fun a hF => ?_
        refine sv' hF (wy hF rfl rfl rfl) rfl rfl (R.fieldAddr (k := 0) Try.underlying115 rfl nz113 (hF.ev rfl) rfl) fun a hF => ?_
        refine sv' hF (wy hF rfl rfl rfl) rfl rfl (R.load one113 (hF.ev rfl) hS .h (rfl)) fun a hF => ?_
        refine sv' hF (wy hF rfl rfl rfl) rfl rfl (R.move (hF.ev rfl)) fun a hF => ?_
        refine sv' hF (wy hF rfl rfl rfl) rfl rfl (R.indexO Try.underlying113 sz139 (hF.ev rfl) (Rd.ne (hO.rd hS (.t .h)) (by rw [acs_length]; omega)) (hF.ev rfl) (by omega) (by omega)) fun a hF => ?_
        refine sv' hF (wy hF rfl rfl rfl) rfl rfl (R.fieldAddrO (m := 1) Try.underlying139 rfl nz3 (hF.ev rfl) (Rd.ne (hO.rd hS (.t .h)) (by rw [acs_length]; omega)) rfl) fun a hF => ?_
        refine sv' hF (wy hF rfl rfl rfl) rfl rfl (R.loadO one3 (hF.ev rfl) (hO.rd hS (.t .h)) (ac_at (j := 1) hp rfl)) fun a hF => ?_
        refine sv' hF (wy hF rfl rfl rfl) rfl rfl (R.move (hF.ev rfl)) fun a hF => ?_
        refine sv' hF (wy hF rfl rfl rfl) rfl rfl (R.eql (hF.ev rfl) (hF.ev rfl)) fun a hF => ?_
        refine sv' hF (wn rfl) rfl rfl (R.pickT (hF.ev rfl) (hF.ev rfl)) fun a hF => ?_
        refine s0 ?_
        exact then_n (hK7' _ _ ⟨hF.sub ⟨rfl, rfl, rfl, (congrArg (fun z => some (Value.bool z)) (by first | exact (decide_eq_true (by omega)).symm | exact (decide_eq_false (by omega)).symm | exact decide_eq_decide.2 (by omega))), trivial⟩, hS.sel [0, 1] rfl rfl⟩)
      ·
        refine sk hF (ws hF rfl rfl rfl rfl) rfl rfl fun a hF => ?_
        refine sk hF (ws hF rfl rfl rfl rfl) rfl rfl fun a hF => ?_
        refine sk hF (ws hF rfl rfl rfl rfl) rfl rfl fun a hF => ?_
        refine sk hF (ws hF rfl rfl rfl rfl) rfl rfl fun a hF => ?_
        refine sk hF (ws hF rfl rfl rfl rfl) rfl rfl fun a hF => ?_
        refine sk hF (ws hF rfl rfl rfl rfl) rfl rfl fun a hF => ?_
        refine sk hF (ws hF rfl rfl rfl rfl) rfl rfl fun a hF => ?_
        refine sk hF (ws hF rfl rfl rfl rfl) rfl rfl fun a hF => ?_
        refine sk hF (ws hF rfl rfl rfl rfl) rfl rfl fun a hF => ?_
        refine sk hF (ws hF rfl rfl rfl rfl) rfl rfl fun a hF => ?_
        refine sv' hF (wn rfl) rfl rfl (R.pickF (hF.ev rfl) (hF.ev rfl)) fun a hF => ?_
        refine s0 ?_
        exact then_n (hK7' _ _ ⟨hF.sub ⟨rfl, rfl, rfl, (congrArg (fun z => some (Value.bool z)) (by first | exact (decide_eq_true (by omega)).symm | exact (decide_eq_false (by omega)).symm | exact decide_eq_decide.2 (by omega))), trivial⟩, hS.sel [0, 1] rfl rfl⟩)
    ·
      obtain rfl : i = l.length := by omega
      rw [List.take_length] at hno
      have hres : paidR l t = false := hno
      refine wp_exit (then_x (then_x (blk_hit ?_)))
      refine then_n (hK2 _ _ ?_)
      refine wp_seq_k fun K9 hK9 => ?_
      refine wp_region_lit ?_
      refine sv' hF (wn rfl) rfl rfl (R.assign (hF.ev rfl)) fun a hF => ?_
      refine s0 ?_
      refine then_n (hK9 _ _ ?_)
      refine wp_ret (hR _ _ _ _ _ hF (run_results Try.results92 (.t hF rfl (.nil))) ?_)
      have hS := (hS.sel [0, 1] rfl rfl).flat (bs' := [(rb, Cel [.slice A l.length c] 115) :: sg]) (by simp [selS])
      exact ⟨_, _, rfl, ⟨by rw [hres]; rfl, rfl⟩, hS⟩

theorem rLocked_calls (rb : Nat) (l : List Ac) (s : Seg) (w0 : World) (hV : RefS rb l s) (ho : Own w0 s) (hok : AcsOk l) (hc : l.length ≤ 9223372036854775806) : Ret Try.prog 93 [.pointer (some ⟨rb, 0, none⟩)] w0 (s.map (·.1)) (fun v s' => v = wv (lockR l) ∧ s' = s) := by
  refine fn_start Try.func93 rfl Try.ntmps93 rfl [(0, .pointer (some ⟨rb, 0, none⟩))] ⟨rfl, trivial⟩ ?_
  intro Q a hP hF hR hN
  have hS := St.enter ho
  refine wp_seq_k fun K1 hK1 => ?_
  obtain ⟨A, c, sg, rfl, hO⟩ := hV; have hS := hS.flat (bs' := [[(rb, Cel [.slice A l.length c] 115)], sg]) (by simp)
  refine wp_region_lit ?_
  refine so (wn rfl) (O.alloc rfl rfl hF ze29 rfl hS fun b2 a w hF hS => ?_)
  refine s0 ?_
  refine then_n (hK1 _ _ ?_)
  refine wp_seq_k fun K2 hK2 => ?_
  refine wp_region_lit ?_
  refine so (wn rfl) (O.alloc rfl rfl hF ze29 rfl hS fun b3 a w hF hS => ?_)
  refine s0 ?_
  refine then_n (hK2 _ _ ?_)
  refine wp_seq_k fun K3 hK3 => ?_
  refine wp_seq_k fun K4 hK4 => ?_
  refine wp_region_lit ?_
  refine sv' hF (wn rfl) rfl rfl (R.assign (hF.ev rfl)) fun a hF => ?_
  refine s0 ?_
  refine then_n (hK4 _ _ ?_)
  refine wp_block ?_
  refine wp_loop_N (fun g a w => ∃ (i : Nat), l.length - i = g ∧ Fr 53 [(0, .pointer (some ⟨rb, 0, none⟩)), (2, .pointer (some ⟨b2, 0, none⟩)), (3, .pointer (some ⟨b3, 0, none⟩)), (4, .int .i64 ((i : Nat) : Int))] a ∧ St w0 (List.map (·.1) ((rb, Cel [.slice A l.length c] 115) :: sg)) [[(rb, Cel [.slice A l.length c] 115)], sg, [(b3, Cel (wc (lockR (l.take i))) 29)], [(b2, Cel (wc 0) 29)]] w ∧ (i ≤ l.length)) (l.length - 0) ?_ ?_
  · exact ⟨0, rfl, hF.sub ⟨rfl, rfl, rfl, rfl, trivial⟩, hS.sel [2, 3, 0, 1] rfl (by rw [show lockR (l.take 0) = 0 from rfl]; rfl), by omega⟩
  · rintro KL1 g a w ⟨i, hg1, hF, hS, hi⟩ hKL1
    refine wp_seq_k fun K5 hK5 => ?_
    refine wp_seq_k fun K6 hK6 => ?_
    refine wp_region_lit ?_
    refine sv' hF (wn rfl) rfl rfl (R.move (hF.ev rfl)) fun a hF => ?_
    refine sv' hF (wn rfl) rfl rfl (R.move (hF.ev rfl)) fun a hF => ?_
    refine sv' hF (wn rfl) rfl rfl (R.nilCheck (hF.ev rfl)) fun a hF => ?_
    refine sv' hF (wn rfl) rfl rfl (R.fieldAddr (k := 0) Try.underlying115 rfl nz113 (hF.ev rfl) rfl) fun a hF => ?_
    refine sv' hF (wn rfl) rfl rfl (R.load one113 (hF.ev rfl) hS .h (rfl)) fun a hF => ?_
    refine sv' hF (wn rfl) rfl rfl (R.len Try.underlying113 (hF.ev rfl)) fun a hF => ?_
    refine sv' hF (wn rfl) rfl rfl (R.lss (hF.ev rfl) (hF.ev rfl)) fun a hF => ?_
    refine s0 ?_
    refine then_n (hK6 _ _ ?_)
    refine cD hF rfl (fun c1 => ?_) (fun c1 => ?_)
    ·
      obtain ⟨p, hp⟩ : ∃ p, l[i]? = some p := ⟨_, List.getElem?_eq_getElem (by omega)⟩
      have hpa := hok p (List.mem_of_getElem? hp)
      refine wp_skip ?_
      refine then_n (hK5 _ _ ?_)
      refine wp_seq_k fun K7 hK7 => ?_
      have hK7' : ∀ a w, (Fr 53 [(0, .pointer (some ⟨rb, 0, none⟩)), (2, .pointer (some ⟨b2, 0, none⟩)), (3, .pointer (some ⟨b3, 0, none⟩)), (4, .int .i64 ((i : Nat) : Int))] a ∧ St w0 (List.map (·.1) ((rb, Cel [.slice A l.length c] 115) :: sg)) [[(rb, Cel [.slice A l.length c] 115)], sg, [(b3, Cel (wc (lockR (l.take (i + 1)))) 29)], [(b2, Cel (wc 0) 29)]] w) → K7 a w := by
        rintro a w ⟨hF, hS⟩
        refine hK7 _ _ ?_
        refine wp_region_lit ?_
        refine sv' hF (wn rfl) rfl rfl (R.move (hF.ev rfl)) fun a hF => ?_
        refine sv' hF (wn rfl) rfl rfl (R.addI (hF.ev rfl) (hF.ev rfl) (by omega)) fun a hF => ?_
        refine sv' hF (wn rfl) rfl rfl (R.assign (hF.ev rfl)) fun a hF => ?_
        refine s0 ?_
        refine then_n (hKL1 (l.length - (i + 1)) _ _ ?_ ?_)
        · omega
        · exact ⟨i + 1, rfl, hF.sub ⟨rfl, rfl, rfl, rfl, trivial⟩, hS.sel [0, 1, 2, 3] rfl rfl, by omega⟩
      refine wp_block ?_
      refine wp_seq_k fun K8 hK8 => ?_
      refine wp_region_lit ?_
      refine sv' hF (wn rfl) rfl rfl (R.move (hF.ev rfl)) fun a hF => ?_
      refine sv' hF (wn rfl) rfl rfl (R.nilCheck (hF.ev rfl)) fun a hF => ?_
      refine sv' hF (wn rfl) rfl rfl (R.fieldAddr (k := 0) Try.underlying115 rfl nz113 (hF.ev rfl) rfl) fun a hF => ?_
      refine sv' hF (wn rfl) rfl rfl (R.load one113 (hF.ev rfl) hS .h (rfl)) fun a hF => ?_
      refine sv' hF (wn rfl) rfl rfl (R.move (hF.ev rfl)) fun a hF => ?_
      refine sv' hF (wn rfl) rfl rfl (R.indexO Try.underlying113 sz139 (hF.ev rfl) (Rd.ne (hO.rd hS (.t .h)) (by rw [acs_length]; omega)) (hF.ev rfl) (by omega) (by omega)) fun a hF => ?_
      refine sv' hF (wn rfl) rfl rfl (R.fieldAddrO (m := 0) Try.underlying139 rfl nz3 (hF.ev rfl) (Rd.ne (hO.rd hS (.t .h)) (by rw [acs_length]; omega)) rfl) fun a hF => ?_
      refine sv' hF (wn rfl) rfl rfl (R.loadO one3 (hF.ev rfl) (hO.rd hS (.t .h)) (ac_at (j := 0) hp rfl)) fun a hF => ?_
      refine s0 ?_
      refine then_n (hK8 _ _ ?_)
      refine wp_block ?_
      refine wp_seq_k fun K9 hK9 => ?_
      refine wp_region_lit ?_
      refine sv' hF (wn rfl) rfl rfl (R.eql (hF.ev rfl) (hF.ev rfl)) fun a hF => ?_
      refine sv' hF (wn rfl) rfl rfl (R.assign (hF.ev rfl)) fun a hF => ?_
      refine s0 ?_
      refine then_n (hK9 _ _ ?_)
      refine cD hF rfl (fun c3 => ?_) (fun c3 => ?_)
      ·
        refine wp_drawS hS [(0, 1), (1, 0), (2, 0), (3, 0), (4, 1), (5, 0), (6, 0), (7, 0), (8, 1), (9, 2), (10, 0), (11, 0), (12, 0), (13, 3)] mix (by kernel_rfl) (hP.then.block.then.then.block.block) fun w hS => ?_
        have hD := hS
        refine dr hF rfl (wn rfl) rfl rfl hD (fun w hD => R.loadW agg29 (hF.ev rfl) hD (.t (.t .h)) sz29 (rfl)) fun a hF => ?_
        refine dq hF rfl (wn rfl) rfl rfl (fun w => R.move (hF.ev rfl)) fun a hF => ?_
        refine dq hF rfl (wn rfl) rfl rfl (fun w => R.nilCheck (hF.ev rfl)) fun a hF => ?_
        refine dq hF rfl (wn rfl) rfl rfl (fun w => R.fieldAddr (k := 0) Try.underlying115 rfl nz113 (hF.ev rfl) rfl) fun a hF => ?_
        refine dr hF rfl (wn rfl) rfl rfl hD (fun w hD => R.load one113 (hF.ev rfl) hD .h (rfl)) fun a hF => ?_
        refine dq hF rfl (wn rfl) rfl rfl (fun w => R.move (hF.ev rfl)) fun a hF => ?_
        refine dq hF rfl (wn rfl) rfl rfl (fun w => R.indexO Try.underlying113 sz139 (hF.ev rfl) (Rd.ne (hO.rd hS (.t .h)) (by rw [acs_length]; omega)) (hF.ev rfl) (by omega) (by omega)) fun a hF => ?_
        refine dq hF rfl (wn rfl) rfl rfl (fun w => R.fieldAddrO (m := 3) Try.underlying139 rfl nz29 (hF.ev rfl) (Rd.ne (hO.rd hS (.t .h)) (by rw [acs_length]; omega)) rfl) fun a hF => ?_
        refine dr hF rfl (wn rfl) rfl rfl hD (fun w hD => R.loadAO (cs := wc p.amt) agg29 (hF.ev rfl) (hO.rd hD (.t .h)) sz29 rfl (Nat.succ_pos _) (fun j v h => by rw [Nat.add_assoc]; exact ac_at hp (getAt (l := acL p) (cs := wc p.amt) (off := 3) rfl j v h))) fun a hF => ?_
        refine dl rfl (wn rfl) (O.call rfl rfl hF ent22 (hF.evs rfl) hS (radd_calls (lockR (l.take i)) p.amt _ (lockR_lt _) hpa) fun v s34 a w hR hF hS => ⟨fun hD => hS.tail, ?_⟩)
        obtain ⟨rfl, rfl⟩ := hR
        have hD := hS.tail
        refine dq hF rfl (wn rfl) rfl rfl (fun w => R.move (hF.ev rfl)) fun a hF => ?_
        refine dq hF rfl (wn rfl) rfl rfl (fun w => R.extract (hF.ev rfl) rfl) fun a hF => ?_
        refine dq hF rfl (wn rfl) rfl rfl (fun w => R.extract (hF.ev rfl) rfl) fun a hF => ?_
        refine dw rfl (wn rfl) (O.storeW sz29 (hF.ev rfl) (hF.ev rfl) (rfl) rfl (by simp [Value.oneCell']) hS (.t (.t (.t .h))) (rfl) fun w hS => ?_)
        refine d0 ?_
        refine blk_n ?_
        refine blk_n ?_
        exact then_n (hK7' _ _ ⟨hF.sub ⟨rfl, rfl, rfl, rfl, trivial⟩, hS.sel [1, 2, 3, 4] rfl (by rw [lock_succ hp, lockStep, if_pos c3]; rfl)⟩)
      ·
        refine wp_seq_k fun K10 hK10 => ?_
        refine wp_region_lit ?_
        refine sv' hF (wn rfl) rfl rfl (R.eql (hF.ev rfl) (hF.ev rfl)) fun a hF => ?_
        refine sv' hF (wn rfl) rfl rfl (R.assign (hF.ev rfl)) fun a hF => ?_
        refine s0 ?_
        refine then_n (hK10 _ _ ?_)
        refine cD hF rfl (fun c4 => ?_) (fun c4 => ?_)
        ·
          refine wp_drawS hS [(0, 1), (1, 0), (2, 0), (3, 0), (4, 1), (5, 0), (6, 0), (7, 0), (8, 1), (9, 2), (10, 0), (11, 0), (12, 0), (13, 3)] mix (by kernel_rfl) (hP.then.block.then.then.block.block) fun w hS => ?_
          have hD := hS
          refine dr hF rfl (wn rfl) rfl rfl hD (fun w hD => R.loadW agg29 (hF.ev rfl) hD (.t (.t .h)) sz29 (rfl)) fun a hF => ?_
          refine dq hF rfl (wn rfl) rfl rfl (fun w => R.move (hF.ev rfl)) fun a hF => ?_
          refine dq hF rfl (wn rfl) rfl rfl (fun w => R.nilCheck (hF.ev rfl)) fun a hF => ?_
          refine dq hF rfl (wn rfl) rfl rfl (fun w => R.fieldAddr (k := 0) Try.underlying115 rfl nz113 (hF.ev rfl) rfl) fun a hF => ?_
          refine dr hF rfl (wn rfl) rfl rfl hD (fun w hD => R.load one113 (hF.ev rfl) hD .h (rfl)) fun a hF => ?_
          refine dq hF rfl (wn rfl) rfl rfl (fun w => R.move (hF.ev rfl)) fun a hF => ?_
          refine dq hF rfl (wn rfl) rfl rfl (fun w => R.indexO Try.underlying113 sz139 (hF.ev rfl) (Rd.ne (hO.rd hS (.t .h)) (by rw [acs_length]; omega)) (hF.ev rfl) (by omega) (by omega)) fun a hF => ?_
          refine dq hF rfl (wn rfl) rfl rfl (fun w => R.fieldAddrO (m := 3) Try.underlying139 rfl nz29 (hF.ev rfl) (Rd.ne (hO.rd hS (.t .h)) (by rw [acs_length]; omega)) rfl) fun a hF => ?_
          refine dr hF rfl (wn rfl) rfl rfl hD (fun w hD => R.loadAO (cs := wc p.amt) agg29 (hF.ev rfl) (hO.rd hD (.t .h)) sz29 rfl (Nat.succ_pos _) (fun j v h => by rw [Nat.add_assoc]; exact ac_at hp (getAt (l := acL p) (cs := wc p.amt) (off := 3) rfl j v h))) fun a hF => ?_
          refine dl rfl (wn rfl) (O.call rfl rfl hF ent23 (hF.evs rfl) hS (rsub_calls (lockR (l.take i)) p.amt _ (lockR_lt _) hpa) fun v s49 a w hR hF hS => ⟨fun hD => hS.tail, ?_⟩)
          obtain ⟨rfl, rfl⟩ := hR
          have hD := hS.tail
          refine dq hF rfl (wn rfl) rfl rfl (fun w => R.move (hF.ev rfl)) fun a hF => ?_
          refine dq hF rfl (wn rfl) rfl rfl (fun w => R.extract (hF.ev rfl) rfl) fun a hF => ?_
          refine dq hF rfl (wn rfl) rfl rfl (fun w => R.extract (hF.ev rfl) rfl) fun a hF => ?_
          refine dw rfl (wn rfl) (O.storeW sz29 (hF.ev rfl) (hF.ev rfl) (rfl) rfl (by simp [Value.oneCell']) hS (.t (.t (.t .h))) (rfl) fun w hS => ?_)
          refine d0 ?_
          refine blk_n ?_
          refine blk_n ?_
          exact then_n (hK7' _ _ ⟨hF.sub ⟨rfl, rfl, rfl, rfl, trivial⟩, hS.sel [1, 2, 3, 4] rfl (by rw [lock_succ hp, lockStep, if_neg c3, if_pos c4]; rfl)⟩)
        ·
          refine wp_skip ?_
          refine blk_n ?_
          refine blk_n ?_
          exact then_n (hK7' _ _ ⟨hF.sub ⟨rfl, rfl, rfl, rfl, trivial⟩, hS.sel [0, 1, 2, 3] rfl (by rw [lock_succ hp, lockStep, if_neg c3, if_neg c4]; rfl)⟩)
    ·
      obtain rfl : i = l.length := by omega
      rw [List.take_length] at hS
      refine wp_exit (then_x (then_x (blk_hit ?_)))
      refine then_n (hK3 _ _ ?_)
      refine wp_seq_k fun K11 hK11 => ?_
      refine wp_region_lit ?_
      refine sv' hF (wn rfl) rfl rfl (R.loadW agg29 (hF.ev rfl) hS (.t (.t .h)) sz29 (rfl)) fun a hF => ?_
      refine so (wn rfl) (O.storeW sz29 (hF.ev rfl) (hF.ev rfl) (rfl) rfl (by simp [Value.oneCell']) hS (.t (.t (.t .h))) (rfl) fun w hS => ?_)
      refine s0 ?_
      refine then_n (hK11 _ _ ?_)
      refine wp_ret (hR _ _ _ _ _ hF (run_results Try.results93 (.cw hF rfl agg29 hS (.t (.t (.t .h))) sz29 (rfl) (.nil))) ?_)
      have hS := (hS.sel [0, 1] rfl rfl).flat (bs' := [(rb, Cel [.slice A l.length c] 115) :: sg]) (by simp [selS])
      exact ⟨_, _, rfl, ⟨rfl, rfl⟩, hS⟩

end Go.Proofs.Ythgecfjpacebeaa
