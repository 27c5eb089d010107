/- The calls of operandOf and size. -/
import Derived.Test.YtlapmbkfmbkdoaaM5
import Derived.Test.YtlapmbkfmbkdoaaM4
import Derived.Test.YtlapmbkfmbkdoaaTa
namespace Go.Proofs.Ytlapmbkfmbkdoaa
open Go Go.Fw Go.RowKit
attribute [local irreducible] Go.Oper.wp Go.Code.wp Go.wpList Go.Fw.WL Go.Calls
theorem cAt_lt {xs : List Nat} (h : Byt xs) (i : Nat) : cAt xs i < 256 := byt_getD h i
theorem cb_at {xs : List Nat} {i off : Nat} (h : i < xs.length) (ho : off = i) : (byts xs)[off]? = some (.int .u8 ((cAt xs i : Nat) : Int)) := byts_at h ho
theorem cd_at {xs : List Nat} {q i off : Nat} (h : q + i < xs.length) (ho : off = i) : (byts (xs.drop q))[off]? = some (.int .u8 ((cAt xs (q + i) : Nat) : Int)) := by
  rw [byts_at (i := i) (by rw [List.length_drop]; omega) ho]
  simp [cAt, List.getD_eq_getElem?_getD]
theorem rd_dropB {w : World} {A : Option Addr} {l : List Nat} {c : Nat} (h : Rd w A (byts l)) (hc : l.length ≤ c) (k : Nat) : Rd w (if c = k then A else A.map (·.add (k * 1))) (byts (l.drop k)) := by
  by_cases e : c = k
  · rw [if_pos e, List.drop_eq_nil_of_le (by omega)]; exact Rd.nil _ _
  · rw [if_neg e]
    intro j v hj
    rw [show byts (l.drop k) = (byts l).drop k from by simp [byts, List.map_drop], List.getElem?_drop] at hj
    obtain ⟨a, rfl, h2⟩ := h _ _ hj
    exact ⟨_, rfl, by rw [add_add, Nat.mul_one]; exact h2⟩
theorem cd0_at {xs : List Nat} {q off : Nat} (h : q < xs.length) (ho : off = 0) : (byts (xs.drop q))[off]? = some (.int .u8 ((cAt xs q : Nat) : Int)) := cd_at (q := q) (i := 0) h ho
def operN (c : Nat) : Nat := if c = 2 then 1 else if c = 4 ∨ c = 5 ∨ c = 16 then 2 else if c = 14 ∨ c = 15 then 3 else 0
theorem operN_spec (c : Nat) : (operN c = 1 ↔ c = 2) ∧ (operN c = 2 ↔ c = 4 ∨ c = 5 ∨ c = 16) ∧ (operN c = 3 ↔ c = 14 ∨ c = 15) := by
  unfold operN
  split
  · omega
  split
  · omega
  split <;> omega
theorem size_as {xs : List Nat} {p : Nat} (n : Nat) (h : n = sizeN xs p) : Value.int .i64 ((n : Nat) : Int) = .int .i64 ((sizeN xs p : Nat) : Int) := by rw [h]
theorem size_0 {xs : List Nat} {p : Nat} (h : 0 = sizeN xs p) : Value.int .i64 0 = .int .i64 ((sizeN xs p : Nat) : Int) := by rw [← h]; rfl
theorem size_i {xs : List Nat} {p : Nat} {z : Int} (h : z = (sizeN xs p : Nat)) : Value.int .i64 z = .int .i64 ((sizeN xs p : Nat) : Int) := by rw [← h]

theorem operandOf_calls (c : Nat) (w0 : World) : Ret Try.prog 39 [.int .i64 (c : Nat)] w0 [] (fun v s => v = .int .i64 ((operN c : Nat) : Int) ∧ s = []) := by
  refine fn_start Try.func39 rfl Try.ntmps39 rfl [(0, .int .i64 (c : Nat))] ⟨rfl, trivial⟩ ?_
  intro Q a hP hF hR hN
  have hS := St.start w0
  refine wp_seq_k fun K1 hK1 => ?_
  refine wp_region_lit ?_
  refine sv' hF (wn rfl) rfl rfl (R.assign (hF.ev rfl)) fun a hF => ?_
  refine s0 ?_
  refine then_n (hK1 _ _ ?_)
  refine wp_seq_k fun K2 hK2 => ?_
  refine wp_seq_k fun K3 hK3 => ?_
  refine wp_region_lit ?_
  refine sv' hF (wn rfl) rfl rfl (R.move (hF.ev rfl)) fun a hF => ?_
  refine s0 ?_
  refine then_n (hK3 _ _ ?_)
  refine wp_block ?_
  refine wp_seq_k fun K4 hK4 => ?_
  refine wp_region_lit ?_
  refine sv' hF (wn rfl) rfl rfl (R.eql (hF.ev rfl) (hF.ev rfl)) fun a hF => ?_
  refine sv' hF (wn rfl) rfl rfl (R.assign (hF.ev rfl)) fun a hF => ?_
  refine s0 ?_
  refine then_n (hK4 _ _ ?_)
  refine cD hF rfl (fun c1 => ?_) (fun c1 => ?_)
  ·
    refine wp_seq_k fun K5 hK5 => ?_
    refine wp_region_lit ?_
    refine sv' hF (wn rfl) rfl rfl (R.assign (hF.ev rfl)) fun a hF => ?_
    refine s0 ?_
    refine then_n (hK5 _ _ ?_)
    refine wp_ret (blk_r (then_r (hR _ _ _ _ _ hF (run_results Try.results39 (.t hF rfl (.nil))) ?_)))
    exact ⟨_, [], rfl, ⟨congrArg (Value.int .i64) (by unfold operN; (repeat' split) <;> omega), rfl⟩, hS.none⟩
  ·
    refine wp_seq_k fun K6 hK6 => ?_
    refine wp_seq_k fun K7 hK7 => ?_
    refine wp_region_lit ?_
    refine sv' hF (wn rfl) rfl rfl (R.eql (hF.ev rfl) (hF.ev rfl)) fun a hF => ?_
    refine sv' hF (wn rfl) rfl rfl (R.assign (hF.ev rfl)) fun a hF => ?_
    refine s0 ?_
    refine then_n (hK7 _ _ ?_)
    refine cD hF rfl (fun c2 => ?_) (fun c2 => ?_)
    ·
      have hF := hF.nowT (t := 6) rfl c2
      refine wp_skip ?_
      refine then_n (hK6 _ _ ?_)
      refine cT hF rfl ?_
      refine wp_seq_k fun K8 hK8 => ?_
      refine wp_region_lit ?_
      refine sv' hF (wn rfl) rfl rfl (R.assign (hF.ev rfl)) fun a hF => ?_
      refine s0 ?_
      refine then_n (hK8 _ _ ?_)
      refine wp_ret (blk_r (then_r (hR _ _ _ _ _ hF (run_results Try.results39 (.t hF rfl (.nil))) ?_)))
      exact ⟨_, [], rfl, ⟨congrArg (Value.int .i64) (by unfold operN; (repeat' split) <;> omega), rfl⟩, hS.none⟩
    ·
      have hF := hF.nowF (t := 6) rfl c2
      refine wp_seq_k fun K9 hK9 => ?_
      refine wp_region_lit ?_
      refine sv' hF (wn rfl) rfl rfl (R.eql (hF.ev rfl) (hF.ev rfl)) fun a hF => ?_
      refine sv' hF (wn rfl) rfl rfl (R.assign (hF.ev rfl)) fun a hF => ?_
      refine s0 ?_
      refine then_n (hK9 _ _ ?_)
      refine cD hF rfl (fun c4 => ?_) (fun c4 => ?_)
      ·
        have hF := hF.nowT (t := 6) rfl c4
        refine wp_skip ?_
        refine then_n (hK6 _ _ ?_)
        refine cT hF rfl ?_
        refine wp_seq_k fun K10 hK10 => ?_
        refine wp_region_lit ?_
        refine sv' hF (wn rfl) rfl rfl (R.assign (hF.ev rfl)) fun a hF => ?_
        refine s0 ?_
        refine then_n (hK10 _ _ ?_)
        refine wp_ret (blk_r (then_r (hR _ _ _ _ _ hF (run_results Try.results39 (.t hF rfl (.nil))) ?_)))
        exact ⟨_, [], rfl, ⟨congrArg (Value.int .i64) (by unfold operN; (repeat' split) <;> omega), rfl⟩, hS.none⟩
      ·
        have hF := hF.nowF (t := 6) rfl c4
        refine wp_region_lit ?_
        refine sv' hF (wn rfl) rfl rfl (R.eql (hF.ev rfl) (hF.ev rfl)) fun a hF => ?_
        refine sv' hF (wn rfl) rfl rfl (R.assign (hF.ev rfl)) fun a hF => ?_
        refine s0 ?_
        refine then_n (hK6 _ _ ?_)
        refine cD hF rfl (fun c6 => ?_) (fun c6 => ?_)
        ·
          have hF := hF.nowT (t := 6) rfl c6
          refine wp_seq_k fun K11 hK11 => ?_
          refine wp_region_lit ?_
          refine sv' hF (wn rfl) rfl rfl (R.assign (hF.ev rfl)) fun a hF => ?_
          refine s0 ?_
          refine then_n (hK11 _ _ ?_)
          refine wp_ret (blk_r (then_r (hR _ _ _ _ _ hF (run_results Try.results39 (.t hF rfl (.nil))) ?_)))
          exact ⟨_, [], rfl, ⟨congrArg (Value.int .i64) (by unfold operN; (repeat' split) <;> omega), rfl⟩, hS.none⟩
        ·
          have hF := hF.nowF (t := 6) rfl c6
          refine wp_seq_k fun K12 hK12 => ?_
          refine wp_seq_k fun K13 hK13 => ?_
          refine wp_region_lit ?_
          refine sv' hF (wn rfl) rfl rfl (R.eql (hF.ev rfl) (hF.ev rfl)) fun a hF => ?_
          refine sv' hF (wn rfl) rfl rfl (R.assign (hF.ev rfl)) fun a hF => ?_
          refine s0 ?_
          refine then_n (hK13 _ _ ?_)
          refine cD hF rfl (fun c7 => ?_) (fun c7 => ?_)
          ·
            have hF := hF.nowT (t := 10) rfl c7
            refine wp_skip ?_
            refine then_n (hK12 _ _ ?_)
            refine cT hF rfl ?_
            refine wp_seq_k fun K14 hK14 => ?_
            refine wp_region_lit ?_
            refine sv' hF (wn rfl) rfl rfl (R.assign (hF.ev rfl)) fun a hF => ?_
            refine s0 ?_
            refine then_n (hK14 _ _ ?_)
            refine wp_ret (blk_r (then_r (hR _ _ _ _ _ hF (run_results Try.results39 (.t hF rfl (.nil))) ?_)))
            exact ⟨_, [], rfl, ⟨congrArg (Value.int .i64) (by unfold operN; (repeat' split) <;> omega), rfl⟩, hS.none⟩
          ·
            have hF := hF.nowF (t := 10) rfl c7
            refine wp_region_lit ?_
            refine sv' hF (wn rfl) rfl rfl (R.eql (hF.ev rfl) (hF.ev rfl)) fun a hF => ?_
            refine sv' hF (wn rfl) rfl rfl (R.assign (hF.ev rfl)) fun a hF => ?_
            refine s0 ?_
            refine then_n (hK12 _ _ ?_)
            refine cD hF rfl (fun c9 => ?_) (fun c9 => ?_)
            ·
              have hF := hF.nowT (t := 10) rfl c9
              refine wp_seq_k fun K15 hK15 => ?_
              refine wp_region_lit ?_
              refine sv' hF (wn rfl) rfl rfl (R.assign (hF.ev rfl)) fun a hF => ?_
              refine s0 ?_
              refine then_n (hK15 _ _ ?_)
              refine wp_ret (blk_r (then_r (hR _ _ _ _ _ hF (run_results Try.results39 (.t hF rfl (.nil))) ?_)))
              exact ⟨_, [], rfl, ⟨congrArg (Value.int .i64) (by unfold operN; (repeat' split) <;> omega), rfl⟩, hS.none⟩
            ·
              have hF := hF.nowF (t := 10) rfl c9
              refine wp_skip ?_
              refine blk_n ?_
              refine then_n (hK2 _ _ ?_)
              refine wp_seq_k fun K16 hK16 => ?_
              refine wp_region_lit ?_
              refine sv' hF (wn rfl) rfl rfl (R.assign (hF.ev rfl)) fun a hF => ?_
              refine s0 ?_
              refine then_n (hK16 _ _ ?_)
              refine wp_ret (hR _ _ _ _ _ hF (run_results Try.results39 (.t hF rfl (.nil))) ?_)
              exact ⟨_, [], rfl, ⟨congrArg (Value.int .i64) (by unfold operN; (repeat' split) <;> omega), rfl⟩, hS.none⟩

set_option maxHeartbeats 4000000 in
theorem size_calls (A : Option Addr) (n c : Nat) (xs : List Nat) (p : Nat) (w0 : World) (hA : Rd w0 A (byts xs)) (hn : xs.length = n) (hnc : n ≤ c) (hc : c ≤ 9223372036854775807) (hB : Byt xs) (hp : p ≤ 4611686018427387904) : Ret Try.prog 20 [.slice A n c, .int .i64 ((p : Nat) : Int)] w0 [] (fun v s => v = .int .i64 ((sizeN xs p : Nat) : Int) ∧ s = []) := by
  refine fn_start Try.func20 rfl Try.ntmps20 rfl [(0, .slice A n c), (1, .int .i64 ((p : Nat) : Int))] ⟨rfl, rfl, trivial⟩ ?_
  intro Q a hP hF hR hN
  have hS := St.start w0
  have hop := operN_spec (cAt xs p); have hb1 := cAt_lt hB p; have hb2 := cAt_lt hB (p + 1)
  refine wp_seq_k fun K1 hK1 => ?_
  refine wp_region_lit ?_
  refine sv' hF (wn rfl) rfl rfl (R.assign (hF.ev rfl)) fun a hF => ?_
  refine s0 ?_
  refine then_n (hK1 _ _ ?_)
  refine wp_seq_k fun K2 hK2 => ?_
  refine wp_seq_k fun K3 hK3 => ?_
  have hK3' : ∀ a w, (Fr 96 [(0, .slice A n c), (1, .int .i64 ((p : Nat) : Int)), (17, .bool (decide (n ≤ p ∨ 28 ≤ cAt xs p)))] a ∧ St w0 [] [] w) → K3 a w := by
    rintro a w ⟨hF, hS⟩
    refine hK3 _ _ ?_
    refine cD hF rfl (fun c1 => ?_) (fun c1 => ?_)
    ·
      refine wp_seq_k fun K4 hK4 => ?_
      refine wp_region_lit ?_
      refine sv' hF (wn rfl) rfl rfl (R.assign (hF.ev rfl)) fun a hF => ?_
      refine s0 ?_
      refine then_n (hK4 _ _ ?_)
      refine wp_ret (then_r (hR _ _ _ _ _ hF (run_results Try.results20 (.t hF rfl (.nil))) ?_))
      exact ⟨_, [], rfl, ⟨size_i (by unfold sizeN; (repeat' split) <;> omega), rfl⟩, hS.none⟩
    ·
      refine wp_skip ?_
      refine then_n (hK2 _ _ ?_)
      refine wp_seq_k fun K5 hK5 => ?_
      refine wp_region_lit ?_
      refine sv' hF (wn rfl) rfl rfl (R.assign (hF.ev rfl)) fun a hF => ?_
      refine s0 ?_
      refine then_n (hK5 _ _ ?_)
      refine wp_seq_k fun K6 hK6 => ?_
      refine wp_region_lit ?_
      refine sv' hF (wn rfl) rfl rfl (R.move (hF.ev rfl)) fun a hF => ?_
      refine sv' hF (wn rfl) rfl rfl (R.move (hF.ev rfl)) fun a hF => ?_
      refine sv' hF (wn rfl) rfl rfl (R.addI (hF.ev rfl) (hF.ev rfl) (by omega)) fun a hF => ?_
      refine sv' hF (wn rfl) rfl rfl (R.sliceLo (p := p + 1) Try.underlying23 (hF.ev rfl) ((hF.ev rfl).trans (congrArg (Value.int .i64) (by omega))) (by omega) sz5) fun a hF => ?_
      refine sv' hF (wn rfl) rfl rfl (R.assign (hF.ev rfl)) fun a hF => ?_
      refine s0 ?_
      refine then_n (hK6 _ _ ?_)
      refine wp_seq_k fun K7 hK7 => ?_
      refine wp_seq_k fun K8 hK8 => ?_
      refine wp_region_lit ?_
      refine sv' hF (wn rfl) rfl rfl (R.move (hF.ev rfl)) fun a hF => ?_
      refine sv' hF (wn rfl) rfl rfl (R.move (hF.ev rfl)) fun a hF => ?_
      refine sv' hF (wn rfl) rfl rfl (R.indexO Try.underlying23 sz5 (hF.ev rfl) (Rd.ne hA (by rw [length_byts]; omega)) (hF.ev rfl) (by omega) (by omega)) fun a hF => ?_
      refine sv' hF (wn rfl) rfl rfl (R.loadO one5 (hF.ev rfl) (hA.old hS) (cb_at (i := p) (by omega) (by omega))) fun a hF => ?_
      refine sv' hF (wn rfl) rfl rfl (R.convI Try.underlying5 Try.underlying3 (hF.ev rfl) (by omega)) fun a hF => ?_
      refine so (wn rfl) (O.call rfl rfl hF ent39 (hF.evs rfl) hS (operandOf_calls (cAt xs p) _) fun v s27 a w hR hF hS => ?_)
      obtain ⟨rfl, rfl⟩ := hR
      refine s0 ?_
      refine then_n (hK8 _ _ ?_)
      refine wp_block ?_
      refine wp_seq_k fun K9 hK9 => ?_
      refine wp_region_lit ?_
      refine sv' hF (wn rfl) rfl rfl (R.eql (hF.ev rfl) (hF.ev rfl)) fun a hF => ?_
      refine sv' hF (wn rfl) rfl rfl (R.assign (hF.ev rfl)) fun a hF => ?_
      refine s0 ?_
      refine then_n (hK9 _ _ ?_)
      refine cD hF rfl (fun c2 => ?_) (fun c2 => ?_)
      ·
        refine wp_seq_k fun K10 hK10 => ?_
        refine wp_seq_k fun K11 hK11 => ?_
        have hK11' : ∀ a w, (Fr 96 [(0, .slice A n c), (1, .int .i64 ((p : Nat) : Int)), (5, .int .i64 1), (6, .slice (if c = p + 1 then A else A.map (·.add ((p + 1) * 1))) (n - (p + 1)) (c - (p + 1))), (44, .bool (decide (n ≤ p + 1 ∨ cAt xs (p + 1) < 1 ∨ 32 < cAt xs (p + 1))))] a ∧ St w0 [] [] w ∧ (operN (cAt xs p) = 1)) → K11 a w := by
          rintro a w ⟨hF, hS, ho⟩
          refine hK11 _ _ ?_
          refine cD hF rfl (fun c3 => ?_) (fun c3 => ?_)
          ·
            refine wp_seq_k fun K12 hK12 => ?_
            refine wp_region_lit ?_
            refine sv' hF (wn rfl) rfl rfl (R.assign (hF.ev rfl)) fun a hF => ?_
            refine s0 ?_
            refine then_n (hK12 _ _ ?_)
            refine wp_ret (then_r (blk_r (then_r (hR _ _ _ _ _ hF (run_results Try.results20 (.t hF rfl (.nil))) ?_))))
            exact ⟨_, [], rfl, ⟨size_i (by unfold sizeN; (repeat' split) <;> omega), rfl⟩, hS.none⟩
          ·
            refine wp_skip ?_
            refine then_n (hK10 _ _ ?_)
            refine wp_region_lit ?_
            refine sv' hF (wn rfl) rfl rfl (R.move (hF.ev rfl)) fun a hF => ?_
            refine sv' hF (wn rfl) rfl rfl (R.indexO Try.underlying23 sz5 (hF.ev rfl) (Rd.ne (rd_dropB (k := p + 1) hA (by omega)) (by rw [length_byts, List.length_drop]; omega)) (hF.ev rfl) (by omega) (by omega)) fun a hF => ?_
            refine sv' hF (wn rfl) rfl rfl (R.loadO one5 (hF.ev rfl) ((rd_dropB (k := p + 1) hA (by omega)).old hS) (cd0_at (q := p + 1) (by omega) (by omega))) fun a hF => ?_
            refine sv' hF (wn rfl) rfl rfl (R.convI Try.underlying5 Try.underlying3 (hF.ev rfl) (by omega)) fun a hF => ?_
            refine sv' hF (wn rfl) rfl rfl (R.addI (hF.ev rfl) (hF.ev rfl) (by omega)) fun a hF => ?_
            refine sv' hF (wn rfl) rfl rfl (R.assign (hF.ev rfl)) fun a hF => ?_
            refine s0 ?_
            refine blk_n ?_
            refine then_n (hK7 _ _ ?_)
            refine wp_seq_k fun K13 hK13 => ?_
            refine wp_seq_k fun K14 hK14 => ?_
            refine wp_region_lit ?_
            refine sv' hF (wn rfl) rfl rfl (R.move (hF.ev rfl)) fun a hF => ?_
            refine sv' hF (wn rfl) rfl rfl (R.move (hF.ev rfl)) fun a hF => ?_
            refine sv' hF (wn rfl) rfl rfl (R.len Try.underlying23 (hF.ev rfl)) fun a hF => ?_
            refine sv' hF (wn rfl) rfl rfl (R.move (hF.ev rfl)) fun a hF => ?_
            refine sv' hF (wn rfl) rfl rfl (R.subI (hF.ev rfl) (hF.ev rfl) (by omega)) fun a hF => ?_
            refine sv' hF (wn rfl) rfl rfl (R.gtr (hF.ev rfl) (hF.ev rfl)) fun a hF => ?_
            refine s0 ?_
            refine then_n (hK14 _ _ ?_)
            refine cD hF rfl (fun c4 => ?_) (fun c4 => ?_)
            ·
              refine wp_seq_k fun K15 hK15 => ?_
              refine wp_region_lit ?_
              refine sv' hF (wn rfl) rfl rfl (R.assign (hF.ev rfl)) fun a hF => ?_
              refine s0 ?_
              refine then_n (hK15 _ _ ?_)
              refine wp_ret (then_r (hR _ _ _ _ _ hF (run_results Try.results20 (.t hF rfl (.nil))) ?_))
              exact ⟨_, [], rfl, ⟨size_i (by unfold sizeN; (repeat' split) <;> omega), rfl⟩, hS.none⟩
            ·
              refine wp_skip ?_
              refine then_n (hK13 _ _ ?_)
              refine wp_seq_k fun K16 hK16 => ?_
              refine wp_region_lit ?_
              refine sv' hF (wn rfl) rfl rfl (R.move (hF.ev rfl)) fun a hF => ?_
              refine sv' hF (wn rfl) rfl rfl (R.assign (hF.ev rfl)) fun a hF => ?_
              refine s0 ?_
              refine then_n (hK16 _ _ ?_)
              refine wp_ret (hR _ _ _ _ _ hF (run_results Try.results20 (.t hF rfl (.nil))) ?_)
              exact ⟨_, [], rfl, ⟨size_i (by unfold sizeN; (repeat' split) <;> omega), rfl⟩, hS.none⟩
        refine wp_region_lit ?_
        refine sv' hF (wn rfl) rfl rfl (R.move (hF.ev rfl)) fun a hF => ?_
        refine sv' hF (wn rfl) rfl rfl (R.len Try.underlying23 (hF.ev rfl)) fun a hF => ?_
        refine sv' hF (wn rfl) rfl rfl (R.eql (hF.ev rfl) (hF.ev rfl)) fun a hF => ?_
        refine sv' hF (wn rfl) rfl rfl (R.move (hF.ev rfl)) fun a hF => ?_
        refine hF.splitD (t := 33) rfl (fun h33 hF => ?_) (fun h33 hF => ?_)
        ·
          refine sk hF (ws hF rfl rfl rfl rfl) rfl rfl fun a hF => ?_
          refine sk hF (ws hF rfl rfl rfl rfl) rfl rfl fun a hF => ?_
          refine sk hF (ws hF rfl rfl rfl rfl) rfl rfl fun a hF => ?_
          refine sk hF (ws hF rfl rfl rfl rfl) rfl rfl fun a hF => ?_
          refine sv' hF (wn rfl) rfl rfl (R.pickT (hF.ev rfl) (hF.ev rfl)) fun a hF => ?_
          refine sv' hF (wn rfl) rfl rfl (R.move (hF.ev rfl)) fun a hF => ?_
          refine sk hF (ws hF rfl rfl rfl rfl) rfl rfl fun a hF => ?_
          refine sk hF (ws hF rfl rfl rfl rfl) rfl rfl fun a hF => ?_
          refine sk hF (ws hF rfl rfl rfl rfl) rfl rfl fun a hF => ?_
          refine sk hF (ws hF rfl rfl rfl rfl) rfl rfl fun a hF => ?_
          refine sv' hF (wn rfl) rfl rfl (R.pickT (hF.ev rfl) (hF.ev rfl)) fun a hF => ?_
          refine s0 ?_
          exact then_n (hK11' _ _ ⟨hF.sub ⟨rfl, rfl, rfl, rfl, (congrArg (fun z => some (Value.bool z)) (by first | exact (decide_eq_true (by omega)).symm | exact (decide_eq_false (by omega)).symm | exact decide_eq_decide.2 (by omega))), trivial⟩, hS.sel [] rfl rfl, by omega⟩)
        ·
          refine sv' hF (wy hF rfl rfl rfl) rfl rfl (R.move (hF.ev rfl)) fun a hF => ?_
          refine sv' hF (wy hF rfl rfl rfl) rfl rfl (R.indexO Try.underlying23 sz5 (hF.ev rfl) (Rd.ne (rd_dropB (k := p + 1) hA (by omega)) (by rw [length_byts, List.length_drop]; omega)) (hF.ev rfl) (by omega) (by omega)) fun a hF => ?_
          refine sv' hF (wy hF rfl rfl rfl) rfl rfl (R.loadO one5 (hF.ev rfl) ((rd_dropB (k := p + 1) hA (by omega)).old hS) (cd0_at (q := p + 1) (by omega) (by omega))) fun a hF => ?_
          refine sv' hF (wy hF rfl rfl rfl) rfl rfl (R.lss (hF.ev rfl) (hF.ev rfl)) fun a hF => ?_
          refine sv' hF (wn rfl) rfl rfl (R.pickF (hF.ev rfl) (hF.ev rfl)) fun a hF => ?_
          refine sv' hF (wn rfl) rfl rfl (R.move (hF.ev rfl)) fun a hF => ?_
          refine hF.splitD (t := 39) rfl (fun h39 hF => ?_) (fun h39 hF => ?_)
          ·
            refine sk hF (ws hF rfl rfl rfl rfl) rfl rfl fun a hF => ?_
            refine sk hF (ws hF rfl rfl rfl rfl) rfl rfl fun a hF => ?_
            refine sk hF (ws hF rfl rfl rfl rfl) rfl rfl fun a hF => ?_
            refine sk hF (ws hF rfl rfl rfl rfl) rfl rfl fun a hF => ?_
            refine sv' hF (wn rfl) rfl rfl (R.pickT (hF.ev rfl) (hF.ev rfl)) fun a hF => ?_
            refine s0 ?_
            exact then_n (hK11' _ _ ⟨hF.sub ⟨rfl, rfl, rfl, rfl, (congrArg (fun z => some (Value.bool z)) (by first | exact (decide_eq_true (by omega)).symm | exact (decide_eq_false (by omega)).symm | exact decide_eq_decide.2 (by omega))), trivial⟩, hS.sel [] rfl rfl, by omega⟩)
          ·
            refine sv' hF (wy hF rfl rfl rfl) rfl rfl (R.move (hF.ev rfl)) fun a hF => ?_
            refine sv' hF (wy hF rfl rfl rfl) rfl rfl (R.indexO Try.underlying23 sz5 (hF.ev rfl) (Rd.ne (rd_dropB (k := p + 1) hA (by omega)) (by rw [length_byts, List.length_drop]; omega)) (hF.ev rfl) (by omega) (by omega)) fun a hF => ?_
            refine sv' hF (wy hF rfl rfl rfl) rfl rfl (R.loadO one5 (hF.ev rfl) ((rd_dropB (k := p + 1) hA (by omega)).old hS) (cd0_at (q := p + 1) (by omega) (by omega))) fun a hF => ?_
            refine sv' hF (wy hF rfl rfl rfl) rfl rfl (R.gtr (hF.ev rfl) (hF.ev rfl)) fun a hF => ?_
            refine sv' hF (wn rfl) rfl rfl (R.pickF (hF.ev rfl) (hF.ev rfl)) fun a hF => ?_
            refine s0 ?_
            exact then_n (hK11' _ _ ⟨hF.sub ⟨rfl, rfl, rfl, rfl, (congrArg (fun z => some (Value.bool z)) (by first | exact (decide_eq_true (by omega)).symm | exact (decide_eq_false (by omega)).symm | exact decide_eq_decide.2 (by omega))), trivial⟩, hS.sel [] rfl rfl, by omega⟩)
      ·
        refine wp_seq_k fun K17 hK17 => ?_
        refine wp_region_lit ?_
        refine sv' hF (wn rfl) rfl rfl (R.eql (hF.ev rfl) (hF.ev rfl)) fun a hF => ?_
        refine sv' hF (wn rfl) rfl rfl (R.assign (hF.ev rfl)) fun a hF => ?_
        refine s0 ?_
        refine then_n (hK17 _ _ ?_)
        refine cD hF rfl (fun c5 => ?_) (fun c5 => ?_)
        ·
          refine wp_seq_k fun K18 hK18 => ?_
          refine wp_seq_k fun K19 hK19 => ?_
          have hK19' : ∀ a w, (Fr 96 [(0, .slice A n c), (1, .int .i64 ((p : Nat) : Int)), (5, .int .i64 1), (6, .slice (if c = p + 1 then A else A.map (·.add ((p + 1) * 1))) (n - (p + 1)) (c - (p + 1))), (86, .bool (decide (p + 1 < n ∧ ((cAt xs p = 4 ∧ 15 < cAt xs (p + 1)) ∨ (cAt xs p = 5 ∧ (cAt xs (p + 1) < 1 ∨ 15 < cAt xs (p + 1)))))))] a ∧ St w0 [] [] w ∧ (operN (cAt xs p) = 2)) → K19 a w := by
            rintro a w ⟨hF, hS, ho⟩
            refine hK19 _ _ ?_
            refine cD hF rfl (fun c6 => ?_) (fun c6 => ?_)
            ·
              refine wp_seq_k fun K20 hK20 => ?_
              refine wp_region_lit ?_
              refine sv' hF (wn rfl) rfl rfl (R.assign (hF.ev rfl)) fun a hF => ?_
              refine s0 ?_
              refine then_n (hK20 _ _ ?_)
              refine wp_ret (then_r (blk_r (then_r (hR _ _ _ _ _ hF (run_results Try.results20 (.t hF rfl (.nil))) ?_))))
              exact ⟨_, [], rfl, ⟨size_i (by unfold sizeN; (repeat' split) <;> omega), rfl⟩, hS.none⟩
            ·
              refine wp_skip ?_
              refine then_n (hK18 _ _ ?_)
              refine wp_region_lit ?_
              refine sv' hF (wn rfl) rfl rfl (R.assign (hF.ev rfl)) fun a hF => ?_
              refine s0 ?_
              refine blk_n ?_
              refine then_n (hK7 _ _ ?_)
              refine wp_seq_k fun K21 hK21 => ?_
              refine wp_seq_k fun K22 hK22 => ?_
              refine wp_region_lit ?_
              refine sv' hF (wn rfl) rfl rfl (R.move (hF.ev rfl)) fun a hF => ?_
              refine sv' hF (wn rfl) rfl rfl (R.move (hF.ev rfl)) fun a hF => ?_
              refine sv' hF (wn rfl) rfl rfl (R.len Try.underlying23 (hF.ev rfl)) fun a hF => ?_
              refine sv' hF (wn rfl) rfl rfl (R.move (hF.ev rfl)) fun a hF => ?_
              refine sv' hF (wn rfl) rfl rfl (R.subI (hF.ev rfl) (hF.ev rfl) (by omega)) fun a hF => ?_
              refine sv' hF (wn rfl) rfl rfl (R.gtr (hF.ev rfl) (hF.ev rfl)) fun a hF => ?_
              refine s0 ?_
              refine then_n (hK22 _ _ ?_)
              refine cD hF rfl (fun c7 => ?_) (fun c7 => ?_)
              ·
                refine wp_seq_k fun K23 hK23 => ?_
                refine wp_region_lit ?_
                refine sv' hF (wn rfl) rfl rfl (R.assign (hF.ev rfl)) fun a hF => ?_
                refine s0 ?_
                refine then_n (hK23 _ _ ?_)
                refine wp_ret (then_r (hR _ _ _ _ _ hF (run_results Try.results20 (.t hF rfl (.nil))) ?_))
                exact ⟨_, [], rfl, ⟨size_i (by unfold sizeN; (repeat' split) <;> omega), rfl⟩, hS.none⟩
              ·
                refine wp_skip ?_
                refine then_n (hK21 _ _ ?_)
                refine wp_seq_k fun K24 hK24 => ?_
                refine wp_region_lit ?_
                refine sv' hF (wn rfl) rfl rfl (R.move (hF.ev rfl)) fun a hF => ?_
                refine sv' hF (wn rfl) rfl rfl (R.assign (hF.ev rfl)) fun a hF => ?_
                refine s0 ?_
                refine then_n (hK24 _ _ ?_)
                refine wp_ret (hR _ _ _ _ _ hF (run_results Try.results20 (.t hF rfl (.nil))) ?_)
                exact ⟨_, [], rfl, ⟨size_i (by unfold sizeN; (repeat' split) <;> omega), rfl⟩, hS.none⟩
          refine wp_region_lit ?_
          refine sv' hF (wn rfl) rfl rfl (R.move (hF.ev rfl)) fun a hF => ?_
          refine sv' hF (wn rfl) rfl rfl (R.len Try.underlying23 (hF.ev rfl)) fun a hF => ?_
          refine sv' hF (wn rfl) rfl rfl (R.gtr (hF.ev rfl) (hF.ev rfl)) fun a hF => ?_
          refine sv' hF (wn rfl) rfl rfl (R.move (hF.ev rfl)) fun a hF => ?_
          refine hF.splitD (t := 55) rfl (fun h55 hF => ?_) (fun h55 hF => ?_)
          ·
            refine sv' hF (wy hF rfl rfl rfl) rfl rfl (R.move (hF.ev rfl)) fun a hF => ?_
            refine sv' hF (wy hF rfl rfl rfl) rfl rfl (R.move (hF.ev rfl)) fun a hF => ?_
            refine sv' hF (wy hF rfl rfl rfl) rfl rfl (R.indexO Try.underlying23 sz5 (hF.ev rfl) (Rd.ne hA (by rw [length_byts]; omega)) (hF.ev rfl) (by omega) (by omega)) fun a hF => ?_
            refine sv' hF (wy hF rfl rfl rfl) rfl rfl (R.loadO one5 (hF.ev rfl) (hA.old hS) (cb_at (i := p) (by omega) (by omega))) fun a hF => ?_
            refine sv' hF (wy hF rfl rfl rfl) rfl rfl (R.eql (hF.ev rfl) (hF.ev rfl)) fun a hF => ?_
            refine sv' hF (wy hF rfl rfl rfl) rfl rfl (R.move (hF.ev rfl)) fun a hF => ?_
            refine hF.splitD (t := 61) rfl (fun h61 hF => ?_) (fun h61 hF => ?_)
            ·
              refine sv' hF (wy hF rfl rfl rfl) rfl rfl (R.move (hF.ev rfl)) fun a hF => ?_
              refine sv' hF (wy hF rfl rfl rfl) rfl rfl (R.indexO Try.underlying23 sz5 (hF.ev rfl) (Rd.ne (rd_dropB (k := p + 1) hA (by omega)) (by rw [length_byts, List.length_drop]; omega)) (hF.ev rfl) (by omega) (by omega)) fun a hF => ?_
              refine sv' hF (wy hF rfl rfl rfl) rfl rfl (R.loadO one5 (hF.ev rfl) ((rd_dropB (k := p + 1) hA (by omega)).old hS) (cd0_at (q := p + 1) (by omega) (by omega))) fun a hF => ?_
              refine sv' hF (wy hF rfl rfl rfl) rfl rfl (R.gtr (hF.ev rfl) (hF.ev rfl)) fun a hF => ?_
              refine sv' hF (wy hF rfl rfl rfl) rfl rfl (R.pickT (hF.ev rfl) (hF.ev rfl)) fun a hF => ?_
              refine sv' hF (wy hF rfl rfl rfl) rfl rfl (R.move (hF.ev rfl)) fun a hF => ?_
              refine hF.splitD (t := 67) rfl (fun h67 hF => ?_) (fun h67 hF => ?_)
              ·
                refine sk hF (ws hF rfl rfl rfl rfl) rfl rfl fun a hF => ?_
                refine sk hF (ws hF rfl rfl rfl rfl) rfl rfl fun a hF => ?_
                refine sk hF (ws hF rfl rfl rfl rfl) rfl rfl fun a hF => ?_
                refine sk hF (ws hF rfl rfl rfl rfl) rfl rfl fun a hF => ?_
                refine sk hF (ws hF rfl rfl rfl rfl) rfl rfl fun a hF => ?_
                refine sk hF (ws hF rfl rfl rfl rfl) rfl rfl fun a hF => ?_
                refine sk hF (wu hF rfl rfl rfl) rfl rfl fun a hF => ?_
                refine sk hF (wu hF rfl rfl rfl) rfl rfl fun a hF => ?_
                refine sk hF (wu hF rfl rfl rfl) rfl rfl fun a hF => ?_
                refine sk hF (wu hF rfl rfl rfl) rfl rfl fun a hF => ?_
                refine sk hF (wu hF rfl rfl rfl) rfl rfl fun a hF => ?_
                refine sk hF (wu hF rfl rfl rfl) rfl rfl fun a hF => ?_
                refine sk hF (wu hF rfl rfl rfl) rfl rfl fun a hF => ?_
                refine sk hF (wu hF rfl rfl rfl) rfl rfl fun a hF => ?_
                refine sk hF (wu hF rfl rfl rfl) rfl rfl fun a hF => ?_
                refine sk hF (wu hF rfl rfl rfl) rfl rfl fun a hF => ?_
                refine sk hF (ws hF rfl rfl rfl rfl) rfl rfl fun a hF => ?_
                refine sv' hF (wy hF rfl rfl rfl) rfl rfl (R.pickT (hF.ev rfl) (hF.ev rfl)) fun a hF => ?_
                refine sv' hF (wn rfl) rfl rfl (R.pickT (hF.ev rfl) (hF.ev rfl)) fun a hF => ?_
                refine s0 ?_
                exact then_n (hK19' _ _ ⟨hF.sub ⟨rfl, rfl, rfl, rfl, (congrArg (fun z => some (Value.bool z)) (by first | exact (decide_eq_true (by omega)).symm | exact (decide_eq_false (by omega)).symm | exact decide_eq_decide.2 (by omega))), trivial⟩, hS.sel [] rfl rfl, by omega⟩)
              ·
                refine sv' hF (wy hF rfl rfl rfl) rfl rfl (R.move (hF.ev rfl)) fun a hF => ?_
                refine sv' hF (wy hF rfl rfl rfl) rfl rfl (R.move (hF.ev rfl)) fun a hF => ?_
                refine sv' hF (wy hF rfl rfl rfl) rfl rfl (R.indexO Try.underlying23 sz5 (hF.ev rfl) (Rd.ne hA (by rw [length_byts]; omega)) (hF.ev rfl) (by omega) (by omega)) fun a hF => ?_
                refine sv' hF (wy hF rfl rfl rfl) rfl rfl (R.loadO one5 (hF.ev rfl) (hA.old hS) (cb_at (i := p) (by omega) (by omega))) fun a hF => ?_
                refine sv' hF (wy hF rfl rfl rfl) rfl rfl (R.eql (hF.ev rfl) (hF.ev rfl)) fun a hF => ?_
                refine sv' hF (wy hF rfl rfl rfl) rfl rfl (R.move (hF.ev rfl)) fun a hF => ?_
                refine hF.splitD (t := 73) rfl (fun h73 hF => ?_) (fun h73 hF => ?_)
                ·
                  refine sv' hF (wy hF rfl rfl rfl) rfl rfl (R.move (hF.ev rfl)) fun a hF => ?_
                  refine sv' hF (wy hF rfl rfl rfl) rfl rfl (R.indexO Try.underlying23 sz5 (hF.ev rfl) (Rd.ne (rd_dropB (k := p + 1) hA (by omega)) (by rw [length_byts, List.length_drop]; omega)) (hF.ev rfl) (by omega) (by omega)) fun a hF => ?_
                  refine sv' hF (wy hF rfl rfl rfl) rfl rfl (R.loadO one5 (hF.ev rfl) ((rd_dropB (k := p + 1) hA (by omega)).old hS) (cd0_at (q := p + 1) (by omega) (by omega))) fun a hF => ?_
                  refine sv' hF (wy hF rfl rfl rfl) rfl rfl (R.lss (hF.ev rfl) (hF.ev rfl)) fun a hF => ?_
                  refine sv' hF (wy hF rfl rfl rfl) rfl rfl (R.move (hF.ev rfl)) fun a hF => ?_
                  refine hF.splitD (t := 78) rfl (fun h78 hF => ?_) (fun h78 hF => ?_)
                  ·
                    refine sk hF (ws hF rfl rfl rfl rfl) rfl rfl fun a hF => ?_
                    refine sk hF (ws hF rfl rfl rfl rfl) rfl rfl fun a hF => ?_
                    refine sk hF (ws hF rfl rfl rfl rfl) rfl rfl fun a hF => ?_
                    refine sk hF (ws hF rfl rfl rfl rfl) rfl rfl fun a hF => ?_
                    refine sv' hF (wy hF rfl rfl rfl) rfl rfl (R.pickT (hF.ev rfl) (hF.ev rfl)) fun a hF => ?_
                    refine sv' hF (wy hF rfl rfl rfl) rfl rfl (R.pickT (hF.ev rfl) (hF.ev rfl)) fun a hF => ?_
                    refine sv' hF (wy hF rfl rfl rfl) rfl rfl (R.pickF (hF.ev rfl) (hF.ev rfl)) fun a hF => ?_
                    refine sv' hF (wn rfl) rfl rfl (R.pickT (hF.ev rfl) (hF.ev rfl)) fun a hF => ?_
                    refine s0 ?_
                    exact then_n (hK19' _ _ ⟨hF.sub ⟨rfl, rfl, rfl, rfl, (congrArg (fun z => some (Value.bool z)) (by first | exact (decide_eq_true (by omega)).symm | exact (decide_eq_false (by omega)).symm | exact decide_eq_decide.2 (by omega))), trivial⟩, hS.sel [] rfl rfl, by omega⟩)
                  ·
                    refine sv' hF (wy hF rfl rfl rfl) rfl rfl (R.move (hF.ev rfl)) fun a hF => ?_
                    refine sv' hF (wy hF rfl rfl rfl) rfl rfl (R.indexO Try.underlying23 sz5 (hF.ev rfl) (Rd.ne (rd_dropB (k := p + 1) hA (by omega)) (by rw [length_byts, List.length_drop]; omega)) (hF.ev rfl) (by omega) (by omega)) fun a hF => ?_
                    refine sv' hF (wy hF rfl rfl rfl) rfl rfl (R.loadO one5 (hF.ev rfl) ((rd_dropB (k := p + 1) hA (by omega)).old hS) (cd0_at (q := p + 1) (by omega) (by omega))) fun a hF => ?_
                    refine sv' hF (wy hF rfl rfl rfl) rfl rfl (R.gtr (hF.ev rfl) (hF.ev rfl)) fun a hF => ?_
                    refine sv' hF (wy hF rfl rfl rfl) rfl rfl (R.pickF (hF.ev rfl) (hF.ev rfl)) fun a hF => ?_
                    refine sv' hF (wy hF rfl rfl rfl) rfl rfl (R.pickT (hF.ev rfl) (hF.ev rfl)) fun a hF => ?_
                    refine sv' hF (wy hF rfl rfl rfl) rfl rfl (R.pickF (hF.ev rfl) (hF.ev rfl)) fun a hF => ?_
                    refine sv' hF (wn rfl) rfl rfl (R.pickT (hF.ev rfl) (hF.ev rfl)) fun a hF => ?_
                    refine s0 ?_
                    exact then_n (hK19' _ _ ⟨hF.sub ⟨rfl, rfl, rfl, rfl, (congrArg (fun z => some (Value.bool z)) (by first | exact (decide_eq_true (by omega)).symm | exact (decide_eq_false (by omega)).symm | exact decide_eq_decide.2 (by omega))), trivial⟩, hS.sel [] rfl rfl, by omega⟩)
                ·
                  refine sk hF (ws hF rfl rfl rfl rfl) rfl rfl fun a hF => ?_
                  refine sk hF (ws hF rfl rfl rfl rfl) rfl rfl fun a hF => ?_
                  refine sk hF (ws hF rfl rfl rfl rfl) rfl rfl fun a hF => ?_
                  refine sk hF (ws hF rfl rfl rfl rfl) rfl rfl fun a hF => ?_
                  refine sk hF (ws hF rfl rfl rfl rfl) rfl rfl fun a hF => ?_
                  refine sk hF (wu hF rfl rfl rfl) rfl rfl fun a hF => ?_
                  refine sk hF (wu hF rfl rfl rfl) rfl rfl fun a hF => ?_
                  refine sk hF (wu hF rfl rfl rfl) rfl rfl fun a hF => ?_
                  refine sk hF (wu hF rfl rfl rfl) rfl rfl fun a hF => ?_
                  refine sk hF (ws hF rfl rfl rfl rfl) rfl rfl fun a hF => ?_
                  refine sv' hF (wy hF rfl rfl rfl) rfl rfl (R.pickF (hF.ev rfl) (hF.ev rfl)) fun a hF => ?_
                  refine sv' hF (wy hF rfl rfl rfl) rfl rfl (R.pickF (hF.ev rfl) (hF.ev rfl)) fun a hF => ?_
                  refine sv' hF (wn rfl) rfl rfl (R.pickT (hF.ev rfl) (hF.ev rfl)) fun a hF => ?_
                  refine s0 ?_
                  exact then_n (hK19' _ _ ⟨hF.sub ⟨rfl, rfl, rfl, rfl, (congrArg (fun z => some (Value.bool z)) (by first | exact (decide_eq_true (by omega)).symm | exact (decide_eq_false (by omega)).symm | exact decide_eq_decide.2 (by omega))), trivial⟩, hS.sel [] rfl rfl, by omega⟩)
            ·
              refine sk hF (ws hF rfl rfl rfl rfl) rfl rfl fun a hF => ?_
              refine sk hF (ws hF rfl rfl rfl rfl) rfl rfl fun a hF => ?_
              refine sk hF (ws hF rfl rfl rfl rfl) rfl rfl fun a hF => ?_
              refine sk hF (ws hF rfl rfl rfl rfl) rfl rfl fun a hF => ?_
              refine sv' hF (wy hF rfl rfl rfl) rfl rfl (R.pickF (hF.ev rfl) (hF.ev rfl)) fun a hF => ?_
              refine sv' hF (wy hF rfl rfl rfl) rfl rfl (R.move (hF.ev rfl)) fun a hF => ?_
              refine sv' hF (wy hF rfl rfl rfl) rfl rfl (R.move (hF.ev rfl)) fun a hF => ?_
              refine sv' hF (wy hF rfl rfl rfl) rfl rfl (R.move (hF.ev rfl)) fun a hF => ?_
              refine sv' hF (wy hF rfl rfl rfl) rfl rfl (R.indexO Try.underlying23 sz5 (hF.ev rfl) (Rd.ne hA (by rw [length_byts]; omega)) (hF.ev rfl) (by omega) (by omega)) fun a hF => ?_
              refine sv' hF (wy hF rfl rfl rfl) rfl rfl (R.loadO one5 (hF.ev rfl) (hA.old hS) (cb_at (i := p) (by omega) (by omega))) fun a hF => ?_
              refine sv' hF (wy hF rfl rfl rfl) rfl rfl (R.eql (hF.ev rfl) (hF.ev rfl)) fun a hF => ?_
              refine sv' hF (wy hF rfl rfl rfl) rfl rfl (R.move (hF.ev rfl)) fun a hF => ?_
              refine hF.splitD (t := 73) rfl (fun h73 hF => ?_) (fun h73 hF => ?_)
              ·
                refine sv' hF (wy hF rfl rfl rfl) rfl rfl (R.move (hF.ev rfl)) fun a hF => ?_
                refine sv' hF (wy hF rfl rfl rfl) rfl rfl (R.indexO Try.underlying23 sz5 (hF.ev rfl) (Rd.ne (rd_dropB (k := p + 1) hA (by omega)) (by rw [length_byts, List.length_drop]; omega)) (hF.ev rfl) (by omega) (by omega)) fun a hF => ?_
                refine sv' hF (wy hF rfl rfl rfl) rfl rfl (R.loadO one5 (hF.ev rfl) ((rd_dropB (k := p + 1) hA (by omega)).old hS) (cd0_at (q := p + 1) (by omega) (by omega))) fun a hF => ?_
                refine sv' hF (wy hF rfl rfl rfl) rfl rfl (R.lss (hF.ev rfl) (hF.ev rfl)) fun a hF => ?_
                refine sv' hF (wy hF rfl rfl rfl) rfl rfl (R.move (hF.ev rfl)) fun a hF => ?_
                refine hF.splitD (t := 78) rfl (fun h78 hF => ?_) (fun h78 hF => ?_)
                ·
                  refine sk hF (ws hF rfl rfl rfl rfl) rfl rfl fun a hF => ?_
                  refine sk hF (ws hF rfl rfl rfl rfl) rfl rfl fun a hF => ?_
                  refine sk hF (ws hF rfl rfl rfl rfl) rfl rfl fun a hF => ?_
                  refine sk hF (ws hF rfl rfl rfl rfl) rfl rfl fun a hF => ?_
                  refine sv' hF (wy hF rfl rfl rfl) rfl rfl (R.pickT (hF.ev rfl) (hF.ev rfl)) fun a hF => ?_
                  refine sv' hF (wy hF rfl rfl rfl) rfl rfl (R.pickT (hF.ev rfl) (hF.ev rfl)) fun a hF => ?_
                  refine sv' hF (wy hF rfl rfl rfl) rfl rfl (R.pickF (hF.ev rfl) (hF.ev rfl)) fun a hF => ?_
                  refine sv' hF (wn rfl) rfl rfl (R.pickT (hF.ev rfl) (hF.ev rfl)) fun a hF => ?_
                  refine s0 ?_
                  exact then_n (hK19' _ _ ⟨hF.sub ⟨rfl, rfl, rfl, rfl, (congrArg (fun z => some (Value.bool z)) (by first | exact (decide_eq_true (by omega)).symm | exact (decide_eq_false (by omega)).symm | exact decide_eq_decide.2 (by omega))), trivial⟩, hS.sel [] rfl rfl, by omega⟩)
                ·
                  refine sv' hF (wy hF rfl rfl rfl) rfl rfl (R.move (hF.ev rfl)) fun a hF => ?_
                  refine sv' hF (wy hF rfl rfl rfl) rfl rfl (R.indexO Try.underlying23 sz5 (hF.ev rfl) (Rd.ne (rd_dropB (k := p + 1) hA (by omega)) (by rw [length_byts, List.length_drop]; omega)) (hF.ev rfl) (by omega) (by omega)) fun a hF => ?_
                  refine sv' hF (wy hF rfl rfl rfl) rfl rfl (R.loadO one5 (hF.ev rfl) ((rd_dropB (k := p + 1) hA (by omega)).old hS) (cd0_at (q := p + 1) (by omega) (by omega))) fun a hF => ?_
                  refine sv' hF (wy hF rfl rfl rfl) rfl rfl (R.gtr (hF.ev rfl) (hF.ev rfl)) fun a hF => ?_
                  refine sv' hF (wy hF rfl rfl rfl) rfl rfl (R.pickF (hF.ev rfl) (hF.ev rfl)) fun a hF => ?_
                  refine sv' hF (wy hF rfl rfl rfl) rfl rfl (R.pickT (hF.ev rfl) (hF.ev rfl)) fun a hF => ?_
                  refine sv' hF (wy hF rfl rfl rfl) rfl rfl (R.pickF (hF.ev rfl) (hF.ev rfl)) fun a hF => ?_
                  refine sv' hF (wn rfl) rfl rfl (R.pickT (hF.ev rfl) (hF.ev rfl)) fun a hF => ?_
                  refine s0 ?_
                  exact then_n (hK19' _ _ ⟨hF.sub ⟨rfl, rfl, rfl, rfl, (congrArg (fun z => some (Value.bool z)) (by first | exact (decide_eq_true (by omega)).symm | exact (decide_eq_false (by omega)).symm | exact decide_eq_decide.2 (by omega))), trivial⟩, hS.sel [] rfl rfl, by omega⟩)
              ·
                refine sk hF (ws hF rfl rfl rfl rfl) rfl rfl fun a hF => ?_
                refine sk hF (ws hF rfl rfl rfl rfl) rfl rfl fun a hF => ?_
                refine sk hF (ws hF rfl rfl rfl rfl) rfl rfl fun a hF => ?_
                refine sk hF (ws hF rfl rfl rfl rfl) rfl rfl fun a hF => ?_
                refine sk hF (ws hF rfl rfl rfl rfl) rfl rfl fun a hF => ?_
                refine sk hF (wu hF rfl rfl rfl) rfl rfl fun a hF => ?_
                refine sk hF (wu hF rfl rfl rfl) rfl rfl fun a hF => ?_
                refine sk hF (wu hF rfl rfl rfl) rfl rfl fun a hF => ?_
                refine sk hF (wu hF rfl rfl rfl) rfl rfl fun a hF => ?_
                refine sk hF (ws hF rfl rfl rfl rfl) rfl rfl fun a hF => ?_
                refine sv' hF (wy hF rfl rfl rfl) rfl rfl (R.pickF (hF.ev rfl) (hF.ev rfl)) fun a hF => ?_
                refine sv' hF (wy hF rfl rfl rfl) rfl rfl (R.pickF (hF.ev rfl) (hF.ev rfl)) fun a hF => ?_
                refine sv' hF (wn rfl) rfl rfl (R.pickT (hF.ev rfl) (hF.ev rfl)) fun a hF => ?_
                refine s0 ?_
                exact then_n (hK19' _ _ ⟨hF.sub ⟨rfl, rfl, rfl, rfl, (congrArg (fun z => some (Value.bool z)) (by first | exact (decide_eq_true (by omega)).symm | exact (decide_eq_false (by omega)).symm | exact decide_eq_decide.2 (by omega))), trivial⟩, hS.sel [] rfl rfl, by omega⟩)
          ·
            refine sk hF (ws hF rfl rfl rfl rfl) rfl rfl fun a hF => ?_
            refine sk hF (ws hF rfl rfl rfl rfl) rfl rfl fun a hF => ?_
            refine sk hF (ws hF rfl rfl rfl rfl) rfl rfl fun a hF => ?_
            refine sk hF (ws hF rfl rfl rfl rfl) rfl rfl fun a hF => ?_
            refine sk hF (ws hF rfl rfl rfl rfl) rfl rfl fun a hF => ?_
            refine sk hF (ws hF rfl rfl rfl rfl) rfl rfl fun a hF => ?_
            refine sk hF (wu hF rfl rfl rfl) rfl rfl fun a hF => ?_
            refine sk hF (wu hF rfl rfl rfl) rfl rfl fun a hF => ?_
            refine sk hF (wu hF rfl rfl rfl) rfl rfl fun a hF => ?_
            refine sk hF (wu hF rfl rfl rfl) rfl rfl fun a hF => ?_
            refine sk hF (ws hF rfl rfl rfl rfl) rfl rfl fun a hF => ?_
            refine sk hF (ws hF rfl rfl rfl rfl) rfl rfl fun a hF => ?_
            refine sk hF (wu hF rfl rfl rfl) rfl rfl fun a hF => ?_
            refine sk hF (wu hF rfl rfl rfl) rfl rfl fun a hF => ?_
            refine sk hF (wu hF rfl rfl rfl) rfl rfl fun a hF => ?_
            refine sk hF (wu hF rfl rfl rfl) rfl rfl fun a hF => ?_
            refine sk hF (wu hF rfl rfl rfl) rfl rfl fun a hF => ?_
            refine sk hF (wu hF rfl rfl rfl) rfl rfl fun a hF => ?_
            refine sk hF (wu hF rfl rfl rfl) rfl rfl fun a hF => ?_
            refine sk hF (wu hF rfl rfl rfl) rfl rfl fun a hF => ?_
            refine sk hF (wu hF rfl rfl rfl) rfl rfl fun a hF => ?_
            refine sk hF (wu hF rfl rfl rfl) rfl rfl fun a hF => ?_
            refine sk hF (wu hF rfl rfl rfl) rfl rfl fun a hF => ?_
            refine sk hF (wu hF rfl rfl rfl) rfl rfl fun a hF => ?_
            refine sk hF (wu hF rfl rfl rfl) rfl rfl fun a hF => ?_
            refine sk hF (wu hF rfl rfl rfl) rfl rfl fun a hF => ?_
            refine sk hF (wu hF rfl rfl rfl) rfl rfl fun a hF => ?_
            refine sk hF (wu hF rfl rfl rfl) rfl rfl fun a hF => ?_
            refine sk hF (wu hF rfl rfl rfl) rfl rfl fun a hF => ?_
            refine sk hF (ws hF rfl rfl rfl rfl) rfl rfl fun a hF => ?_
            refine sv' hF (wn rfl) rfl rfl (R.pickF (hF.ev rfl) (hF.ev rfl)) fun a hF => ?_
            refine s0 ?_
            exact then_n (hK19' _ _ ⟨hF.sub ⟨rfl, rfl, rfl, rfl, (congrArg (fun z => some (Value.bool z)) (by first | exact (decide_eq_true (by omega)).symm | exact (decide_eq_false (by omega)).symm | exact decide_eq_decide.2 (by omega))), trivial⟩, hS.sel [] rfl rfl, by omega⟩)
        ·
          refine wp_seq_k fun K25 hK25 => ?_
          refine wp_region_lit ?_
          refine sv' hF (wn rfl) rfl rfl (R.eql (hF.ev rfl) (hF.ev rfl)) fun a hF => ?_
          refine sv' hF (wn rfl) rfl rfl (R.assign (hF.ev rfl)) fun a hF => ?_
          refine s0 ?_
          refine then_n (hK25 _ _ ?_)
          refine cD hF rfl (fun c8 => ?_) (fun c8 => ?_)
          ·
            refine wp_region_lit ?_
            refine sv' hF (wn rfl) rfl rfl (R.assign (hF.ev rfl)) fun a hF => ?_
            refine s0 ?_
            refine blk_n ?_
            refine then_n (hK7 _ _ ?_)
            refine wp_seq_k fun K26 hK26 => ?_
            refine wp_seq_k fun K27 hK27 => ?_
            refine wp_region_lit ?_
            refine sv' hF (wn rfl) rfl rfl (R.move (hF.ev rfl)) fun a hF => ?_
            refine sv' hF (wn rfl) rfl rfl (R.move (hF.ev rfl)) fun a hF => ?_
            refine sv' hF (wn rfl) rfl rfl (R.len Try.underlying23 (hF.ev rfl)) fun a hF => ?_
            refine sv' hF (wn rfl) rfl rfl (R.move (hF.ev rfl)) fun a hF => ?_
            refine sv' hF (wn rfl) rfl rfl (R.subI (hF.ev rfl) (hF.ev rfl) (by omega)) fun a hF => ?_
            refine sv' hF (wn rfl) rfl rfl (R.gtr (hF.ev rfl) (hF.ev rfl)) fun a hF => ?_
            refine s0 ?_
            refine then_n (hK27 _ _ ?_)
            refine cD hF rfl (fun c9 => ?_) (fun c9 => ?_)
            ·
              refine wp_seq_k fun K28 hK28 => ?_
              refine wp_region_lit ?_
              refine sv' hF (wn rfl) rfl rfl (R.assign (hF.ev rfl)) fun a hF => ?_
              refine s0 ?_
              refine then_n (hK28 _ _ ?_)
              refine wp_ret (then_r (hR _ _ _ _ _ hF (run_results Try.results20 (.t hF rfl (.nil))) ?_))
              exact ⟨_, [], rfl, ⟨size_i (by unfold sizeN; (repeat' split) <;> omega), rfl⟩, hS.none⟩
            ·
              refine wp_skip ?_
              refine then_n (hK26 _ _ ?_)
              refine wp_seq_k fun K29 hK29 => ?_
              refine wp_region_lit ?_
              refine sv' hF (wn rfl) rfl rfl (R.move (hF.ev rfl)) fun a hF => ?_
              refine sv' hF (wn rfl) rfl rfl (R.assign (hF.ev rfl)) fun a hF => ?_
              refine s0 ?_
              refine then_n (hK29 _ _ ?_)
              refine wp_ret (hR _ _ _ _ _ hF (run_results Try.results20 (.t hF rfl (.nil))) ?_)
              exact ⟨_, [], rfl, ⟨size_i (by unfold sizeN; (repeat' split) <;> omega), rfl⟩, hS.none⟩
          ·
            refine wp_skip ?_
            refine blk_n ?_
            refine then_n (hK7 _ _ ?_)
            refine wp_seq_k fun K30 hK30 => ?_
            refine wp_seq_k fun K31 hK31 => ?_
            refine wp_region_lit ?_
            refine sv' hF (wn rfl) rfl rfl (R.move (hF.ev rfl)) fun a hF => ?_
            refine sv' hF (wn rfl) rfl rfl (R.move (hF.ev rfl)) fun a hF => ?_
            refine sv' hF (wn rfl) rfl rfl (R.len Try.underlying23 (hF.ev rfl)) fun a hF => ?_
            refine sv' hF (wn rfl) rfl rfl (R.move (hF.ev rfl)) fun a hF => ?_
            refine sv' hF (wn rfl) rfl rfl (R.subI (hF.ev rfl) (hF.ev rfl) (by omega)) fun a hF => ?_
            refine sv' hF (wn rfl) rfl rfl (R.gtr (hF.ev rfl) (hF.ev rfl)) fun a hF => ?_
            refine s0 ?_
            refine then_n (hK31 _ _ ?_)
            refine cD hF rfl (fun c10 => ?_) (fun c10 => ?_)
            ·
              refine wp_seq_k fun K32 hK32 => ?_
              refine wp_region_lit ?_
              refine sv' hF (wn rfl) rfl rfl (R.assign (hF.ev rfl)) fun a hF => ?_
              refine s0 ?_
              refine then_n (hK32 _ _ ?_)
              refine wp_ret (then_r (hR _ _ _ _ _ hF (run_results Try.results20 (.t hF rfl (.nil))) ?_))
              exact ⟨_, [], rfl, ⟨size_i (by unfold sizeN; (repeat' split) <;> omega), rfl⟩, hS.none⟩
            ·
              refine wp_skip ?_
              refine then_n (hK30 _ _ ?_)
              refine wp_seq_k fun K33 hK33 => ?_
              refine wp_region_lit ?_
              refine sv' hF (wn rfl) rfl rfl (R.move (hF.ev rfl)) fun a hF => ?_
              refine sv' hF (wn rfl) rfl rfl (R.assign (hF.ev rfl)) fun a hF => ?_
              refine s0 ?_
              refine then_n (hK33 _ _ ?_)
              refine wp_ret (hR _ _ _ _ _ hF (run_results Try.results20 (.t hF rfl (.nil))) ?_)
              exact ⟨_, [], rfl, ⟨size_i (by unfold sizeN; (repeat' split) <;> omega), rfl⟩, hS.none⟩
  refine wp_region_lit ?_
  refine sv' hF (wn rfl) rfl rfl (R.move (hF.ev rfl)) fun a hF => ?_
  refine sv' hF (wn rfl) rfl rfl (R.move (hF.ev rfl)) fun a hF => ?_
  refine sv' hF (wn rfl) rfl rfl (R.len Try.underlying23 (hF.ev rfl)) fun a hF => ?_
  refine sv' hF (wn rfl) rfl rfl (R.geq (hF.ev rfl) (hF.ev rfl)) fun a hF => ?_
  refine sv' hF (wn rfl) rfl rfl (R.move (hF.ev rfl)) fun a hF => ?_
  refine hF.splitD (t := 11) rfl (fun h11 hF => ?_) (fun h11 hF => ?_)
  ·
    refine sk hF (ws hF rfl rfl rfl rfl) rfl rfl fun a hF => ?_
    refine sk hF (ws hF rfl rfl rfl rfl) rfl rfl fun a hF => ?_
    refine sk hF (ws hF rfl rfl rfl rfl) rfl rfl fun a hF => ?_
    refine sk hF (ws hF rfl rfl rfl rfl) rfl rfl fun a hF => ?_
    refine sk hF (ws hF rfl rfl rfl rfl) rfl rfl fun a hF => ?_
    refine sv' hF (wn rfl) rfl rfl (R.pickT (hF.ev rfl) (hF.ev rfl)) fun a hF => ?_
    refine s0 ?_
    exact then_n (hK3' _ _ ⟨hF.sub ⟨rfl, rfl, (congrArg (fun z => some (Value.bool z)) (by first | exact (decide_eq_true (by omega)).symm | exact (decide_eq_false (by omega)).symm | exact decide_eq_decide.2 (by omega))), trivial⟩, hS.sel [] rfl rfl⟩)
  ·
    refine sv' hF (wy hF rfl rfl rfl) rfl rfl (R.move (hF.ev rfl)) fun a hF => ?_
    refine sv' hF (wy hF rfl rfl rfl) rfl rfl (R.move (hF.ev rfl)) fun a hF => ?_
    refine sv' hF (wy hF rfl rfl rfl) rfl rfl (R.indexO Try.underlying23 sz5 (hF.ev rfl) (Rd.ne hA (by rw [length_byts]; omega)) (hF.ev rfl) (by omega) (by omega)) fun a hF => ?_
    refine sv' hF (wy hF rfl rfl rfl) rfl rfl (R.loadO one5 (hF.ev rfl) (hA.old hS) (cb_at (i := p) (by omega) (by omega))) fun a hF => ?_
    refine sv' hF (wy hF rfl rfl rfl) rfl rfl (R.geq (hF.ev rfl) (hF.ev rfl)) fun a hF => ?_
    refine sv' hF (wn rfl) rfl rfl (R.pickF (hF.ev rfl) (hF.ev rfl)) fun a hF => ?_
    refine s0 ?_
    exact then_n (hK3' _ _ ⟨hF.sub ⟨rfl, rfl, (congrArg (fun z => some (Value.bool z)) (by first | exact (decide_eq_true (by omega)).symm | exact (decide_eq_false (by omega)).symm | exact decide_eq_decide.2 (by omega))), trivial⟩, hS.sel [] rfl rfl⟩)

end Go.Proofs.Ytlapmbkfmbkdoaa
