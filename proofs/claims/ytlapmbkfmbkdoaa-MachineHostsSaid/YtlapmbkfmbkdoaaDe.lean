/- The calls of the reference's Size, of the targets, of among. -/
import Derived.Test.YtlapmbkfmbkdoaaDd
import Derived.Test.YtlapmbkfmbkdoaaEb
namespace Go.Proofs.Ytlapmbkfmbkdoaa
open Go Go.Fw Go.RowKit
attribute [local irreducible] Go.Oper.wp Go.Code.wp Go.wpList Go.Fw.WL Go.Calls
theorem plcs_mem {xs : List Nat} : ∀ (f p : Nat) (l : List Nat), plc xs f p = some l → ∀ q ∈ l, q < xs.length ∧ sizeN xs q ≠ 0
  | 0, _, _, h => by simp [plc] at h
  | f + 1, p, l, h => by
    simp only [plc] at h
    split at h
    · simp at h; subst h; simp
    split at h
    · simp at h
    · cases hr : plc xs f (p + sizeN xs p) with
      | none => rw [hr] at h; simp at h
      | some r =>
        rw [hr] at h
        simp only [Option.map_some, Option.some.injEq] at h
        subst h
        intro q hq
        rcases List.mem_cons.1 hq with rfl | hq
        · exact ⟨by omega, by assumption⟩
        · exact plcs_mem f _ r hr q hq
theorem places_mem {xs l : List Nat} (h : placesN xs = some l) : ∀ q ∈ l, q < xs.length ∧ sizeN xs q ≠ 0 := plcs_mem _ _ _ h
theorem jump_size {xs : List Nat} {p : Nat} (h : p < xs.length) (hs : sizeN xs p ≠ 0) (hj : isJump xs p = true) : p + 3 ≤ xs.length := by
  have h1 := (sizeN_le xs p).resolve_left hs
  have hj : cAt xs p = 14 ∨ cAt xs p = 15 := by simpa [isJump] using hj
  have : sizeN xs p = 3 := by
    revert hs; unfold sizeN
    repeat' split
    all_goals omega
  omega
theorem targetN_lt {xs : List Nat} (h : Byt xs) (p : Nat) : targetN xs p < 65536 := by
  have h1 := cAt_lt h (p + 1); have h2 := cAt_lt h (p + 2)
  unfold targetN; omega
def RetP (xs : List Nat) (v : Value) (s : Seg) : Prop := match placesN xs with
  | none => v = .tuple #[.slice none 0 0, .bool false] ∧ s = []
  | some l => ∃ A c, v = .tuple #[.slice A l.length c, .bool true] ∧ OwnS s A l.length c (ints l) 3 1
theorem RetP.none {xs : List Nat} (h : placesN xs = none) : RetP xs (.tuple #[.slice none 0 0, .bool false]) [] := by simp [RetP, h]
theorem RetP.some {xs l : List Nat} {A : Option Addr} {c : Nat} {s : Seg} (h : placesN xs = some l) (ho : OwnS s A l.length c (ints l) 3 1) : RetP xs (.tuple #[.slice A l.length c, .bool true]) s := by simp only [RetP, h]; exact ⟨A, c, rfl, ho⟩
theorem own_isnoc {s : Seg} {A : Option Addr} {c x : Nat} {b : List Nat} (h : OwnS s A (b.length + 1) c (ints b ++ [.int .i64 ((x : Nat) : Int)]) 3 1) : OwnS s A (b ++ [x]).length c (ints (b ++ [x])) 3 1 := by
  rw [List.length_append, List.length_singleton]
  simpa [ints] using h

theorem take_nohas {l : List Nat} {i x : Nat} (h : i < l.length) (hl : (l.take i).contains x = false) (h2 : ¬ ((l.getD i 0 : Nat) : Int) = (x : Int)) : (l.take (i + 1)).contains x = false := by
  rw [List.take_succ_eq_append_getElem h]
  rw [List.getD_eq_getElem?_getD, List.getElem?_eq_getElem h, Option.getD_some] at h2
  simp only [List.contains_eq_mem, List.mem_append, List.mem_singleton, decide_eq_false_iff_not] at hl ⊢
  rintro (h3 | h3)
  · exact hl h3
  · exact h2 (by omega)
theorem take_has {l : List Nat} {i x : Nat} (h : i < l.length) (h2 : ((l.getD i 0 : Nat) : Int) = (x : Int)) : l.contains x = true := by
  rw [List.getD_eq_getElem?_getD, List.getElem?_eq_getElem h, Option.getD_some] at h2
  have : l[i] = x := by omega
  simp only [List.contains_eq_mem, decide_eq_true_eq]
  exact this ▸ List.getElem_mem h
theorem ints_get {l : List Nat} {i off : Nat} (h : i < l.length) (ho : off = i) : (ints l)[off]? = some (.int .i64 ((l.getD i 0 : Nat) : Int)) := by
  subst ho; simp [ints, h, List.getD_eq_getElem?_getD]
theorem or8_as {xs : List Nat} {p : Nat} (h2 : cAt xs (p + 2) < 256) : cAt xs (p + 1) * 2 ^ 8 ||| cAt xs (p + 2) = targetN xs p := by
  rw [Nat.mul_comm, ← Nat.two_pow_add_eq_or_of_lt (i := 8) h2, Nat.mul_comm]; rfl

set_option maxHeartbeats 4000000 in
theorem rsize_calls (A : Option Addr) (n c : Nat) (xs : List Nat) (p : Nat) (w0 : World) (hA : Rd w0 A (byts xs)) (hn : xs.length = n) (hnc : n ≤ c) (hc : c ≤ 9223372036854775807) (hB : Byt xs) (hp : p ≤ 4611686018427387904) : Ret Try.prog 25 [.slice A n c, .int .i64 ((p : Nat) : Int)] w0 [] (fun v s => v = .int .i64 ((sizeN xs p : Nat) : Int) ∧ s = []) := by
  refine fn_start Try.func25 rfl Try.ntmps25 rfl [(0, .slice A n c), (1, .int .i64 ((p : Nat) : Int))] ⟨rfl, rfl, trivial⟩ ?_
  intro Q a hP hF hR hN
  have hS := St.start w0
  have hb1 := cAt_lt hB p; have hb2 := cAt_lt hB (p + 1)
  refine wp_seq_k fun K1 hK1 => ?_
  refine wp_region_lit ?_
  refine sv' hF (wn rfl) rfl rfl (R.assign (hF.ev rfl)) fun a hF => ?_
  refine s0 ?_
  refine then_n (hK1 _ _ ?_)
  refine wp_seq_k fun K2 hK2 => ?_
  refine wp_seq_k fun K3 hK3 => ?_
  have hK3' : ∀ a w, (Fr 118 [(0, .slice A n c), (1, .int .i64 ((p : Nat) : Int)), (22, .bool (decide (n ≤ p ∨ 28 ≤ cAt xs p)))] a ∧ St w0 [] [] w) → K3 a w := by
    rintro a w ⟨hF, hS⟩
    refine hK3 _ _ ?_
    refine cD hF rfl (fun c1 => ?_) (fun c1 => ?_)
    ·
      refine wp_seq_k fun K4 hK4 => ?_
      refine wp_region_lit ?_
      refine sv' hF (wn rfl) rfl rfl (R.assign (hF.ev rfl)) fun a hF => ?_
      refine s0 ?_
      refine then_n (hK4 _ _ ?_)
      refine wp_ret (then_r (hR _ _ _ _ _ hF (run_results Try.results25 (.t hF rfl (.nil))) ?_))
      exact ⟨_, [], rfl, ⟨size_i (by unfold sizeN; (repeat' split) <;> omega), rfl⟩, hS.none⟩
    ·
      refine wp_skip ?_
      refine then_n (hK2 _ _ ?_)
      refine wp_seq_k fun K5 hK5 => ?_
      refine wp_region_lit ?_
      refine sv' hF (wn rfl) rfl rfl (R.move (hF.ev rfl)) fun a hF => ?_
      refine sv' hF (wn rfl) rfl rfl (R.move (hF.ev rfl)) fun a hF => ?_
      refine sv' hF (wn rfl) rfl rfl (R.indexO Try.underlying23 sz5 (hF.ev rfl) (Rd.ne hA (by rw [length_byts]; omega)) (hF.ev rfl) (by omega) (by omega)) fun a hF => ?_
      refine sv' hF (wn rfl) rfl rfl (R.loadO one5 (hF.ev rfl) (hA.old hS) (cb_at (i := p) (by omega) (by omega))) fun a hF => ?_
      refine sv' hF (wn rfl) rfl rfl (R.convI Try.underlying5 Try.underlying3 (hF.ev rfl) (by omega)) fun a hF => ?_
      refine sv' hF (wn rfl) rfl rfl (R.assign (hF.ev rfl)) fun a hF => ?_
      refine s0 ?_
      refine then_n (hK5 _ _ ?_)
      refine wp_seq_k fun K6 hK6 => ?_
      refine wp_region_lit ?_
      refine sv' hF (wn rfl) rfl rfl (R.assign (hF.ev rfl)) fun a hF => ?_
      refine s0 ?_
      refine then_n (hK6 _ _ ?_)
      refine wp_seq_k fun K7 hK7 => ?_
      have hK7' : ∀ a w, (∃ (m : Nat), Fr 118 [(0, .slice A n c), (1, .int .i64 ((p : Nat) : Int)), (5, .int .i64 ((cAt xs p : Nat) : Int)), (6, .int .i64 ((m : Nat) : Int))] a ∧ St w0 [] [] w ∧ ((cAt xs p = 2 ∧ ¬ (n ≤ p + 1 ∨ cAt xs (p + 1) < 1 ∨ 32 < cAt xs (p + 1)) ∧ m = 2 + cAt xs (p + 1)) ∨ (cAt xs p ≠ 2 ∧ m = 1))) → K7 a w := by
        rintro a w ⟨m, hF, hS, hf⟩
        refine hK7 _ _ ?_
        refine wp_seq_k fun K8 hK8 => ?_
        have hK8' : ∀ a w, (∃ (m : Nat), Fr 118 [(0, .slice A n c), (1, .int .i64 ((p : Nat) : Int)), (5, .int .i64 ((cAt xs p : Nat) : Int)), (6, .int .i64 ((m : Nat) : Int))] a ∧ St w0 [] [] w ∧ ((cAt xs p = 2 ∧ ¬ (n ≤ p + 1 ∨ cAt xs (p + 1) < 1 ∨ 32 < cAt xs (p + 1)) ∧ m = 2 + cAt xs (p + 1)) ∨ ((cAt xs p = 4 ∨ cAt xs p = 5 ∨ cAt xs p = 16) ∧ ¬ (p + 1 < n ∧ ((cAt xs p = 4 ∧ 15 < cAt xs (p + 1)) ∨ (cAt xs p = 5 ∧ (cAt xs (p + 1) < 1 ∨ 15 < cAt xs (p + 1))))) ∧ m = 2) ∨ (cAt xs p ≠ 2 ∧ cAt xs p ≠ 4 ∧ cAt xs p ≠ 5 ∧ cAt xs p ≠ 16 ∧ m = 1))) → K8 a w := by
          rintro a w ⟨m, hF, hS, hf⟩
          refine hK8 _ _ ?_
          refine wp_seq_k fun K9 hK9 => ?_
          refine wp_seq_k fun K10 hK10 => ?_
          have hK10' : ∀ a w, (∃ (m : Nat), Fr 118 [(0, .slice A n c), (1, .int .i64 ((p : Nat) : Int)), (5, .int .i64 ((cAt xs p : Nat) : Int)), (6, .int .i64 ((m : Nat) : Int)), (110, .bool (decide (cAt xs p = 14 ∨ cAt xs p = 15)))] a ∧ St w0 [] [] w ∧ ((cAt xs p = 2 ∧ ¬ (n ≤ p + 1 ∨ cAt xs (p + 1) < 1 ∨ 32 < cAt xs (p + 1)) ∧ m = 2 + cAt xs (p + 1)) ∨ ((cAt xs p = 4 ∨ cAt xs p = 5 ∨ cAt xs p = 16) ∧ ¬ (p + 1 < n ∧ ((cAt xs p = 4 ∧ 15 < cAt xs (p + 1)) ∨ (cAt xs p = 5 ∧ (cAt xs (p + 1) < 1 ∨ 15 < cAt xs (p + 1))))) ∧ m = 2) ∨ (cAt xs p ≠ 2 ∧ cAt xs p ≠ 4 ∧ cAt xs p ≠ 5 ∧ cAt xs p ≠ 16 ∧ m = 1))) → K10 a w := by
            rintro a w ⟨m, hF, hS, hf⟩
            refine hK10 _ _ ?_
            refine cD hF rfl (fun c2 => ?_) (fun c2 => ?_)
            ·
              refine wp_region_lit ?_
              refine sv' hF (wn rfl) rfl rfl (R.assign (hF.ev rfl)) fun a hF => ?_
              refine s0 ?_
              refine then_n (hK9 _ _ ?_)
              refine wp_seq_k fun K11 hK11 => ?_
              refine wp_seq_k fun K12 hK12 => ?_
              refine wp_region_lit ?_
              refine sv' hF (wn rfl) rfl rfl (R.move (hF.ev rfl)) fun a hF => ?_
              refine sv' hF (wn rfl) rfl rfl (R.move (hF.ev rfl)) fun a hF => ?_
              refine sv' hF (wn rfl) rfl rfl (R.addI (hF.ev rfl) (hF.ev rfl) (by omega)) fun a hF => ?_
              refine sv' hF (wn rfl) rfl rfl (R.move (hF.ev rfl)) fun a hF => ?_
              refine sv' hF (wn rfl) rfl rfl (R.len Try.underlying23 (hF.ev rfl)) fun a hF => ?_
              refine sv' hF (wn rfl) rfl rfl (R.gtr (hF.ev rfl) (hF.ev rfl)) fun a hF => ?_
              refine s0 ?_
              refine then_n (hK12 _ _ ?_)
              refine cD hF rfl (fun c3 => ?_) (fun c3 => ?_)
              ·
                refine wp_seq_k fun K13 hK13 => ?_
                refine wp_region_lit ?_
                refine sv' hF (wn rfl) rfl rfl (R.assign (hF.ev rfl)) fun a hF => ?_
                refine s0 ?_
                refine then_n (hK13 _ _ ?_)
                refine wp_ret (then_r (hR _ _ _ _ _ hF (run_results Try.results25 (.t hF rfl (.nil))) ?_))
                exact ⟨_, [], rfl, ⟨size_i (by unfold sizeN; (repeat' split) <;> omega), rfl⟩, hS.none⟩
              ·
                refine wp_skip ?_
                refine then_n (hK11 _ _ ?_)
                refine wp_seq_k fun K14 hK14 => ?_
                refine wp_region_lit ?_
                refine sv' hF (wn rfl) rfl rfl (R.move (hF.ev rfl)) fun a hF => ?_
                refine sv' hF (wn rfl) rfl rfl (R.assign (hF.ev rfl)) fun a hF => ?_
                refine s0 ?_
                refine then_n (hK14 _ _ ?_)
                refine wp_ret (hR _ _ _ _ _ hF (run_results Try.results25 (.t hF rfl (.nil))) ?_)
                exact ⟨_, [], rfl, ⟨size_i (by unfold sizeN; (repeat' split) <;> omega), rfl⟩, hS.none⟩
            ·
              refine wp_skip ?_
              refine then_n (hK9 _ _ ?_)
              refine wp_seq_k fun K15 hK15 => ?_
              refine wp_seq_k fun K16 hK16 => ?_
              refine wp_region_lit ?_
              refine sv' hF (wn rfl) rfl rfl (R.move (hF.ev rfl)) fun a hF => ?_
              refine sv' hF (wn rfl) rfl rfl (R.move (hF.ev rfl)) fun a hF => ?_
              refine sv' hF (wn rfl) rfl rfl (R.addI (hF.ev rfl) (hF.ev rfl) (by omega)) fun a hF => ?_
              refine sv' hF (wn rfl) rfl rfl (R.move (hF.ev rfl)) fun a hF => ?_
              refine sv' hF (wn rfl) rfl rfl (R.len Try.underlying23 (hF.ev rfl)) fun a hF => ?_
              refine sv' hF (wn rfl) rfl rfl (R.gtr (hF.ev rfl) (hF.ev rfl)) fun a hF => ?_
              refine s0 ?_
              refine then_n (hK16 _ _ ?_)
              refine cD hF rfl (fun c4 => ?_) (fun c4 => ?_)
              ·
                refine wp_seq_k fun K17 hK17 => ?_
                refine wp_region_lit ?_
                refine sv' hF (wn rfl) rfl rfl (R.assign (hF.ev rfl)) fun a hF => ?_
                refine s0 ?_
                refine then_n (hK17 _ _ ?_)
                refine wp_ret (then_r (hR _ _ _ _ _ hF (run_results Try.results25 (.t hF rfl (.nil))) ?_))
                exact ⟨_, [], rfl, ⟨size_i (by unfold sizeN; (repeat' split) <;> omega), rfl⟩, hS.none⟩
              ·
                refine wp_skip ?_
                refine then_n (hK15 _ _ ?_)
                refine wp_seq_k fun K18 hK18 => ?_
                refine wp_region_lit ?_
                refine sv' hF (wn rfl) rfl rfl (R.move (hF.ev rfl)) fun a hF => ?_
                refine sv' hF (wn rfl) rfl rfl (R.assign (hF.ev rfl)) fun a hF => ?_
                refine s0 ?_
                refine then_n (hK18 _ _ ?_)
                refine wp_ret (hR _ _ _ _ _ hF (run_results Try.results25 (.t hF rfl (.nil))) ?_)
                exact ⟨_, [], rfl, ⟨size_i (by unfold sizeN; (repeat' split) <;> omega), rfl⟩, hS.none⟩
          refine wp_region_lit ?_
          refine sv' hF (wn rfl) rfl rfl (R.move (hF.ev rfl)) fun a hF => ?_
          refine sv' hF (wn rfl) rfl rfl (R.eql (hF.ev rfl) (hF.ev rfl)) fun a hF => ?_
          refine sv' hF (wn rfl) rfl rfl (R.move (hF.ev rfl)) fun a hF => ?_
          refine hF.splitD (t := 107) rfl (fun h107 hF => ?_) (fun h107 hF => ?_)
          ·
            refine sk hF (ws hF rfl rfl rfl rfl) rfl rfl fun a hF => ?_
            refine sk hF (ws hF rfl rfl rfl rfl) rfl rfl fun a hF => ?_
            refine sv' hF (wn rfl) rfl rfl (R.pickT (hF.ev rfl) (hF.ev rfl)) fun a hF => ?_
            refine s0 ?_
            exact then_n (hK10' _ _ ⟨m, hF.sub ⟨rfl, rfl, rfl, rfl, (congrArg (fun z => some (Value.bool z)) (by first | exact (decide_eq_true (by omega)).symm | exact (decide_eq_false (by omega)).symm | exact decide_eq_decide.2 (by omega))), trivial⟩, hS.sel [] rfl rfl, hf⟩)
          ·
            refine sv' hF (wy hF rfl rfl rfl) rfl rfl (R.move (hF.ev rfl)) fun a hF => ?_
            refine sv' hF (wy hF rfl rfl rfl) rfl rfl (R.eql (hF.ev rfl) (hF.ev rfl)) fun a hF => ?_
            refine sv' hF (wn rfl) rfl rfl (R.pickF (hF.ev rfl) (hF.ev rfl)) fun a hF => ?_
            refine s0 ?_
            exact then_n (hK10' _ _ ⟨m, hF.sub ⟨rfl, rfl, rfl, rfl, (congrArg (fun z => some (Value.bool z)) (by first | exact (decide_eq_true (by omega)).symm | exact (decide_eq_false (by omega)).symm | exact decide_eq_decide.2 (by omega))), trivial⟩, hS.sel [] rfl rfl, hf⟩)
        refine wp_seq_k fun K19 hK19 => ?_
        have hK19' : ∀ a w, (∃ (m : Nat), Fr 118 [(0, .slice A n c), (1, .int .i64 ((p : Nat) : Int)), (5, .int .i64 ((cAt xs p : Nat) : Int)), (6, .int .i64 ((m : Nat) : Int)), (67, .bool (decide (cAt xs p = 4 ∨ cAt xs p = 5 ∨ cAt xs p = 16)))] a ∧ St w0 [] [] w ∧ ((cAt xs p = 2 ∧ ¬ (n ≤ p + 1 ∨ cAt xs (p + 1) < 1 ∨ 32 < cAt xs (p + 1)) ∧ m = 2 + cAt xs (p + 1)) ∨ (cAt xs p ≠ 2 ∧ m = 1))) → K19 a w := by
          rintro a w ⟨m, hF, hS, hf⟩
          refine hK19 _ _ ?_
          refine cD hF rfl (fun c5 => ?_) (fun c5 => ?_)
          ·
            refine wp_seq_k fun K20 hK20 => ?_
            refine wp_region_lit ?_
            refine sv' hF (wn rfl) rfl rfl (R.assign (hF.ev rfl)) fun a hF => ?_
            refine s0 ?_
            refine then_n (hK20 _ _ ?_)
            refine wp_seq_k fun K21 hK21 => ?_
            have hK21' : ∀ a w, (Fr 118 [(0, .slice A n c), (1, .int .i64 ((p : Nat) : Int)), (5, .int .i64 ((cAt xs p : Nat) : Int)), (6, .int .i64 ((2 : Nat) : Int)), (104, .bool (decide (p + 1 < n ∧ ((cAt xs p = 4 ∧ 15 < cAt xs (p + 1)) ∨ (cAt xs p = 5 ∧ (cAt xs (p + 1) < 1 ∨ 15 < cAt xs (p + 1)))))))] a ∧ St w0 [] [] w) → K21 a w := by
              rintro a w ⟨hF, hS⟩
              refine hK21 _ _ ?_
              refine cD hF rfl (fun c6 => ?_) (fun c6 => ?_)
              ·
                refine wp_seq_k fun K22 hK22 => ?_
                refine wp_region_lit ?_
                refine sv' hF (wn rfl) rfl rfl (R.assign (hF.ev rfl)) fun a hF => ?_
                refine s0 ?_
                refine then_n (hK22 _ _ ?_)
                refine wp_ret (then_r (hR _ _ _ _ _ hF (run_results Try.results25 (.t hF rfl (.nil))) ?_))
                exact ⟨_, [], rfl, ⟨size_i (by unfold sizeN; (repeat' split) <;> omega), rfl⟩, hS.none⟩
              ·
                refine wp_skip ?_
                exact then_n (hK8' _ _ ⟨2, hF.sub ⟨rfl, rfl, rfl, (congrArg (fun z => some (Value.int .i64 z)) (by omega)), trivial⟩, hS.sel [] rfl rfl, by omega⟩)
            refine wp_region_lit ?_
            refine sv' hF (wn rfl) rfl rfl (R.move (hF.ev rfl)) fun a hF => ?_
            refine sv' hF (wn rfl) rfl rfl (R.addI (hF.ev rfl) (hF.ev rfl) (by omega)) fun a hF => ?_
            refine sv' hF (wn rfl) rfl rfl (R.move (hF.ev rfl)) fun a hF => ?_
            refine sv' hF (wn rfl) rfl rfl (R.len Try.underlying23 (hF.ev rfl)) fun a hF => ?_
            refine sv' hF (wn rfl) rfl rfl (R.lss (hF.ev rfl) (hF.ev rfl)) fun a hF => ?_
            refine sv' hF (wn rfl) rfl rfl (R.move (hF.ev rfl)) fun a hF => ?_
            refine hF.splitD (t := 73) rfl (fun h73 hF => ?_) (fun h73 hF => ?_)
            ·
              refine sv' hF (wy hF rfl rfl rfl) rfl rfl (R.move (hF.ev rfl)) fun a hF => ?_
              refine sv' hF (wy hF rfl rfl rfl) rfl rfl (R.eql (hF.ev rfl) (hF.ev rfl)) fun a hF => ?_
              refine sv' hF (wy hF rfl rfl rfl) rfl rfl (R.move (hF.ev rfl)) fun a hF => ?_
              refine hF.splitD (t := 76) rfl (fun h76 hF => ?_) (fun h76 hF => ?_)
              ·
                refine sv' hF (wy hF rfl rfl rfl) rfl rfl (R.move (hF.ev rfl)) fun a hF => ?_
                refine sv' hF (wy hF rfl rfl rfl) rfl rfl (R.move (hF.ev rfl)) fun a hF => ?_
                refine sv' hF (wy hF rfl rfl rfl) rfl rfl (R.addI (hF.ev rfl) (hF.ev rfl) (by omega)) fun a hF => ?_
                refine sv' hF (wy hF rfl rfl rfl) rfl rfl (R.indexO Try.underlying23 sz5 (hF.ev rfl) (Rd.ne hA (by rw [length_byts]; omega)) (hF.ev rfl) (by omega) (by omega)) fun a hF => ?_
                refine sv' hF (wy hF rfl rfl rfl) rfl rfl (R.loadO one5 (hF.ev rfl) (hA.old hS) (cb_at (i := p + 1) (by omega) (by omega))) fun a hF => ?_
                refine sv' hF (wy hF rfl rfl rfl) rfl rfl (R.gtr (hF.ev rfl) (hF.ev rfl)) fun a hF => ?_
                refine sv' hF (wy hF rfl rfl rfl) rfl rfl (R.pickT (hF.ev rfl) (hF.ev rfl)) fun a hF => ?_
                refine sv' hF (wy hF rfl rfl rfl) rfl rfl (R.move (hF.ev rfl)) fun a hF => ?_
                refine hF.splitD (t := 84) rfl (fun h84 hF => ?_) (fun h84 hF => ?_)
                ·
                  refine sk hF (ws hF rfl rfl rfl rfl) rfl rfl fun a hF => ?_
                  refine sk hF (ws hF rfl rfl rfl rfl) rfl rfl fun a hF => ?_
                  refine sk hF (ws hF rfl rfl rfl rfl) rfl rfl fun a hF => ?_
                  refine sk hF (wu hF rfl rfl rfl) rfl rfl fun a hF => ?_
                  refine sk hF (wu hF rfl rfl rfl) rfl rfl fun a hF => ?_
                  refine sk hF (wu hF rfl rfl rfl) rfl rfl fun a hF => ?_
                  refine sk hF (wu hF rfl rfl rfl) rfl rfl fun a hF => ?_
                  refine sk hF (wu hF rfl rfl rfl) rfl rfl fun a hF => ?_
                  refine sk hF (wu hF rfl rfl rfl) rfl rfl fun a hF => ?_
                  refine sk hF (wu hF rfl rfl rfl) rfl rfl fun a hF => ?_
                  refine sk hF (wu hF rfl rfl rfl) rfl rfl fun a hF => ?_
                  refine sk hF (wu hF rfl rfl rfl) rfl rfl fun a hF => ?_
                  refine sk hF (wu hF rfl rfl rfl) rfl rfl fun a hF => ?_
                  refine sk hF (wu hF rfl rfl rfl) rfl rfl fun a hF => ?_
                  refine sk hF (wu hF rfl rfl rfl) rfl rfl fun a hF => ?_
                  refine sk hF (wu hF rfl rfl rfl) rfl rfl fun a hF => ?_
                  refine sk hF (wu hF rfl rfl rfl) rfl rfl fun a hF => ?_
                  refine sk hF (ws hF rfl rfl rfl rfl) rfl rfl fun a hF => ?_
                  refine sv' hF (wy hF rfl rfl rfl) rfl rfl (R.pickT (hF.ev rfl) (hF.ev rfl)) fun a hF => ?_
                  refine sv' hF (wn rfl) rfl rfl (R.pickT (hF.ev rfl) (hF.ev rfl)) fun a hF => ?_
                  refine s0 ?_
                  exact then_n (hK21' _ _ ⟨hF.sub ⟨rfl, rfl, rfl, rfl, (congrArg (fun z => some (Value.bool z)) (by first | exact (decide_eq_true (by omega)).symm | exact (decide_eq_false (by omega)).symm | exact decide_eq_decide.2 (by omega))), trivial⟩, hS.sel [] rfl rfl⟩)
                ·
                  refine sv' hF (wy hF rfl rfl rfl) rfl rfl (R.move (hF.ev rfl)) fun a hF => ?_
                  refine sv' hF (wy hF rfl rfl rfl) rfl rfl (R.eql (hF.ev rfl) (hF.ev rfl)) fun a hF => ?_
                  refine sv' hF (wy hF rfl rfl rfl) rfl rfl (R.move (hF.ev rfl)) fun a hF => ?_
                  refine hF.splitD (t := 87) rfl (fun h87 hF => ?_) (fun h87 hF => ?_)
                  ·
                    refine sv' hF (wy hF rfl rfl rfl) rfl rfl (R.move (hF.ev rfl)) fun a hF => ?_
                    refine sv' hF (wy hF rfl rfl rfl) rfl rfl (R.move (hF.ev rfl)) fun a hF => ?_
                    refine sv' hF (wy hF rfl rfl rfl) rfl rfl (R.addI (hF.ev rfl) (hF.ev rfl) (by omega)) fun a hF => ?_
                    refine sv' hF (wy hF rfl rfl rfl) rfl rfl (R.indexO Try.underlying23 sz5 (hF.ev rfl) (Rd.ne hA (by rw [length_byts]; omega)) (hF.ev rfl) (by omega) (by omega)) fun a hF => ?_
                    refine sv' hF (wy hF rfl rfl rfl) rfl rfl (R.loadO one5 (hF.ev rfl) (hA.old hS) (cb_at (i := p + 1) (by omega) (by omega))) fun a hF => ?_
                    refine sv' hF (wy hF rfl rfl rfl) rfl rfl (R.lss (hF.ev rfl) (hF.ev rfl)) fun a hF => ?_
                    refine sv' hF (wy hF rfl rfl rfl) rfl rfl (R.move (hF.ev rfl)) fun a hF => ?_
                    refine hF.splitD (t := 94) rfl (fun h94 hF => ?_) (fun h94 hF => ?_)
                    ·
                      refine sk hF (ws hF rfl rfl rfl rfl) rfl rfl fun a hF => ?_
                      refine sk hF (ws hF rfl rfl rfl rfl) rfl rfl fun a hF => ?_
                      refine sk hF (ws hF rfl rfl rfl rfl) rfl rfl fun a hF => ?_
                      refine sk hF (ws hF rfl rfl rfl rfl) rfl rfl fun a hF => ?_
                      refine sk hF (ws hF rfl rfl rfl rfl) rfl rfl fun a hF => ?_
                      refine sk hF (ws hF rfl rfl rfl rfl) rfl rfl fun a hF => ?_
                      refine sv' hF (wy hF rfl rfl rfl) rfl rfl (R.pickT (hF.ev rfl) (hF.ev rfl)) fun a hF => ?_
                      refine sv' hF (wy hF rfl rfl rfl) rfl rfl (R.pickT (hF.ev rfl) (hF.ev rfl)) fun a hF => ?_
                      refine sv' hF (wy hF rfl rfl rfl) rfl rfl (R.pickF (hF.ev rfl) (hF.ev rfl)) fun a hF => ?_
                      refine sv' hF (wn rfl) rfl rfl (R.pickT (hF.ev rfl) (hF.ev rfl)) fun a hF => ?_
                      refine s0 ?_
                      exact then_n (hK21' _ _ ⟨hF.sub ⟨rfl, rfl, rfl, rfl, (congrArg (fun z => some (Value.bool z)) (by first | exact (decide_eq_true (by omega)).symm | exact (decide_eq_false (by omega)).symm | exact decide_eq_decide.2 (by omega))), trivial⟩, hS.sel [] rfl rfl⟩)
                    ·
                      refine sv' hF (wy hF rfl rfl rfl) rfl rfl (R.move (hF.ev rfl)) fun a hF => ?_
                      refine sv' hF (wy hF rfl rfl rfl) rfl rfl (R.move (hF.ev rfl)) fun a hF => ?_
                      refine sv' hF (wy hF rfl rfl rfl) rfl rfl (R.addI (hF.ev rfl) (hF.ev rfl) (by omega)) fun a hF => ?_
                      refine sv' hF (wy hF rfl rfl rfl) rfl rfl (R.indexO Try.underlying23 sz5 (hF.ev rfl) (Rd.ne hA (by rw [length_byts]; omega)) (hF.ev rfl) (by omega) (by omega)) fun a hF => ?_
                      refine sv' hF (wy hF rfl rfl rfl) rfl rfl (R.loadO one5 (hF.ev rfl) (hA.old hS) (cb_at (i := p + 1) (by omega) (by omega))) fun a hF => ?_
                      refine sv' hF (wy hF rfl rfl rfl) rfl rfl (R.gtr (hF.ev rfl) (hF.ev rfl)) fun a hF => ?_
                      refine sv' hF (wy hF rfl rfl rfl) rfl rfl (R.pickF (hF.ev rfl) (hF.ev rfl)) fun a hF => ?_
                      refine sv' hF (wy hF rfl rfl rfl) rfl rfl (R.pickT (hF.ev rfl) (hF.ev rfl)) fun a hF => ?_
                      refine sv' hF (wy hF rfl rfl rfl) rfl rfl (R.pickF (hF.ev rfl) (hF.ev rfl)) fun a hF => ?_
                      refine sv' hF (wn rfl) rfl rfl (R.pickT (hF.ev rfl) (hF.ev rfl)) fun a hF => ?_
                      refine s0 ?_
                      exact then_n (hK21' _ _ ⟨hF.sub ⟨rfl, rfl, rfl, rfl, (congrArg (fun z => some (Value.bool z)) (by first | exact (decide_eq_true (by omega)).symm | exact (decide_eq_false (by omega)).symm | exact decide_eq_decide.2 (by omega))), trivial⟩, hS.sel [] rfl rfl⟩)
                  ·
                    refine sk hF (ws hF rfl rfl rfl rfl) rfl rfl fun a hF => ?_
                    refine sk hF (ws hF rfl rfl rfl rfl) rfl rfl fun a hF => ?_
                    refine sk hF (ws hF rfl rfl rfl rfl) rfl rfl fun a hF => ?_
                    refine sk hF (ws hF rfl rfl rfl rfl) rfl rfl fun a hF => ?_
                    refine sk hF (ws hF rfl rfl rfl rfl) rfl rfl fun a hF => ?_
                    refine sk hF (ws hF rfl rfl rfl rfl) rfl rfl fun a hF => ?_
                    refine sk hF (ws hF rfl rfl rfl rfl) rfl rfl fun a hF => ?_
                    refine sk hF (wu hF rfl rfl rfl) rfl rfl fun a hF => ?_
                    refine sk hF (wu hF rfl rfl rfl) rfl rfl fun a hF => ?_
                    refine sk hF (wu hF rfl rfl rfl) rfl rfl fun a hF => ?_
                    refine sk hF (wu hF rfl rfl rfl) rfl rfl fun a hF => ?_
                    refine sk hF (wu hF rfl rfl rfl) rfl rfl fun a hF => ?_
                    refine sk hF (wu hF rfl rfl rfl) rfl rfl fun a hF => ?_
                    refine sk hF (ws hF rfl rfl rfl rfl) rfl rfl fun a hF => ?_
                    refine sv' hF (wy hF rfl rfl rfl) rfl rfl (R.pickF (hF.ev rfl) (hF.ev rfl)) fun a hF => ?_
                    refine sv' hF (wy hF rfl rfl rfl) rfl rfl (R.pickF (hF.ev rfl) (hF.ev rfl)) fun a hF => ?_
                    refine sv' hF (wn rfl) rfl rfl (R.pickT (hF.ev rfl) (hF.ev rfl)) fun a hF => ?_
                    refine s0 ?_
                    exact then_n (hK21' _ _ ⟨hF.sub ⟨rfl, rfl, rfl, rfl, (congrArg (fun z => some (Value.bool z)) (by first | exact (decide_eq_true (by omega)).symm | exact (decide_eq_false (by omega)).symm | exact decide_eq_decide.2 (by omega))), trivial⟩, hS.sel [] rfl rfl⟩)
              ·
                refine sk hF (ws hF rfl rfl rfl rfl) rfl rfl fun a hF => ?_
                refine sk hF (ws hF rfl rfl rfl rfl) rfl rfl fun a hF => ?_
                refine sk hF (ws hF rfl rfl rfl rfl) rfl rfl fun a hF => ?_
                refine sk hF (ws hF rfl rfl rfl rfl) rfl rfl fun a hF => ?_
                refine sk hF (ws hF rfl rfl rfl rfl) rfl rfl fun a hF => ?_
                refine sk hF (ws hF rfl rfl rfl rfl) rfl rfl fun a hF => ?_
                refine sv' hF (wy hF rfl rfl rfl) rfl rfl (R.pickF (hF.ev rfl) (hF.ev rfl)) fun a hF => ?_
                refine sv' hF (wy hF rfl rfl rfl) rfl rfl (R.move (hF.ev rfl)) fun a hF => ?_
                refine sv' hF (wy hF rfl rfl rfl) rfl rfl (R.move (hF.ev rfl)) fun a hF => ?_
                refine sv' hF (wy hF rfl rfl rfl) rfl rfl (R.eql (hF.ev rfl) (hF.ev rfl)) fun a hF => ?_
                refine sv' hF (wy hF rfl rfl rfl) rfl rfl (R.move (hF.ev rfl)) fun a hF => ?_
                refine hF.splitD (t := 87) rfl (fun h87 hF => ?_) (fun h87 hF => ?_)
                ·
                  refine sv' hF (wy hF rfl rfl rfl) rfl rfl (R.move (hF.ev rfl)) fun a hF => ?_
                  refine sv' hF (wy hF rfl rfl rfl) rfl rfl (R.move (hF.ev rfl)) fun a hF => ?_
                  refine sv' hF (wy hF rfl rfl rfl) rfl rfl (R.addI (hF.ev rfl) (hF.ev rfl) (by omega)) fun a hF => ?_
                  refine sv' hF (wy hF rfl rfl rfl) rfl rfl (R.indexO Try.underlying23 sz5 (hF.ev rfl) (Rd.ne hA (by rw [length_byts]; omega)) (hF.ev rfl) (by omega) (by omega)) fun a hF => ?_
                  refine sv' hF (wy hF rfl rfl rfl) rfl rfl (R.loadO one5 (hF.ev rfl) (hA.old hS) (cb_at (i := p + 1) (by omega) (by omega))) fun a hF => ?_
                  refine sv' hF (wy hF rfl rfl rfl) rfl rfl (R.lss (hF.ev rfl) (hF.ev rfl)) fun a hF => ?_
                  refine sv' hF (wy hF rfl rfl rfl) rfl rfl (R.move (hF.ev rfl)) fun a hF => ?_
                  refine hF.splitD (t := 94) rfl (fun h94 hF => ?_) (fun h94 hF => ?_)
                  ·
                    refine sk hF (ws hF rfl rfl rfl rfl) rfl rfl fun a hF => ?_
                    refine sk hF (ws hF rfl rfl rfl rfl) rfl rfl fun a hF => ?_
                    refine sk hF (ws hF rfl rfl rfl rfl) rfl rfl fun a hF => ?_
                    refine sk hF (ws hF rfl rfl rfl rfl) rfl rfl fun a hF => ?_
                    refine sk hF (ws hF rfl rfl rfl rfl) rfl rfl fun a hF => ?_
                    refine sk hF (ws hF rfl rfl rfl rfl) rfl rfl fun a hF => ?_
                    refine sv' hF (wy hF rfl rfl rfl) rfl rfl (R.pickT (hF.ev rfl) (hF.ev rfl)) fun a hF => ?_
                    refine sv' hF (wy hF rfl rfl rfl) rfl rfl (R.pickT (hF.ev rfl) (hF.ev rfl)) fun a hF => ?_
                    refine sv' hF (wy hF rfl rfl rfl) rfl rfl (R.pickF (hF.ev rfl) (hF.ev rfl)) fun a hF => ?_
                    refine sv' hF (wn rfl) rfl rfl (R.pickT (hF.ev rfl) (hF.ev rfl)) fun a hF => ?_
                    refine s0 ?_
                    exact then_n (hK21' _ _ ⟨hF.sub ⟨rfl, rfl, rfl, rfl, (congrArg (fun z => some (Value.bool z)) (by first | exact (decide_eq_true (by omega)).symm | exact (decide_eq_false (by omega)).symm | exact decide_eq_decide.2 (by omega))), trivial⟩, hS.sel [] rfl rfl⟩)
                  ·
                    refine sv' hF (wy hF rfl rfl rfl) rfl rfl (R.move (hF.ev rfl)) fun a hF => ?_
                    refine sv' hF (wy hF rfl rfl rfl) rfl rfl (R.move (hF.ev rfl)) fun a hF => ?_
                    refine sv' hF (wy hF rfl rfl rfl) rfl rfl (R.addI (hF.ev rfl) (hF.ev rfl) (by omega)) fun a hF => ?_
                    refine sv' hF (wy hF rfl rfl rfl) rfl rfl (R.indexO Try.underlying23 sz5 (hF.ev rfl) (Rd.ne hA (by rw [length_byts]; omega)) (hF.ev rfl) (by omega) (by omega)) fun a hF => ?_
                    refine sv' hF (wy hF rfl rfl rfl) rfl rfl (R.loadO one5 (hF.ev rfl) (hA.old hS) (cb_at (i := p + 1) (by omega) (by omega))) fun a hF => ?_
                    refine sv' hF (wy hF rfl rfl rfl) rfl rfl (R.gtr (hF.ev rfl) (hF.ev rfl)) fun a hF => ?_
                    refine sv' hF (wy hF rfl rfl rfl) rfl rfl (R.pickF (hF.ev rfl) (hF.ev rfl)) fun a hF => ?_
                    refine sv' hF (wy hF rfl rfl rfl) rfl rfl (R.pickT (hF.ev rfl) (hF.ev rfl)) fun a hF => ?_
                    refine sv' hF (wy hF rfl rfl rfl) rfl rfl (R.pickF (hF.ev rfl) (hF.ev rfl)) fun a hF => ?_
                    refine sv' hF (wn rfl) rfl rfl (R.pickT (hF.ev rfl) (hF.ev rfl)) fun a hF => ?_
                    refine s0 ?_
                    exact then_n (hK21' _ _ ⟨hF.sub ⟨rfl, rfl, rfl, rfl, (congrArg (fun z => some (Value.bool z)) (by first | exact (decide_eq_true (by omega)).symm | exact (decide_eq_false (by omega)).symm | exact decide_eq_decide.2 (by omega))), trivial⟩, hS.sel [] rfl rfl⟩)
                ·
                  refine sk hF (ws hF rfl rfl rfl rfl) rfl rfl fun a hF => ?_
                  refine sk hF (ws hF rfl rfl rfl rfl) rfl rfl fun a hF => ?_
                  refine sk hF (ws hF rfl rfl rfl rfl) rfl rfl fun a hF => ?_
                  refine sk hF (ws hF rfl rfl rfl rfl) rfl rfl fun a hF => ?_
                  refine sk hF (ws hF rfl rfl rfl rfl) rfl rfl fun a hF => ?_
                  refine sk hF (ws hF rfl rfl rfl rfl) rfl rfl fun a hF => ?_
                  refine sk hF (ws hF rfl rfl rfl rfl) rfl rfl fun a hF => ?_
                  refine sk hF (wu hF rfl rfl rfl) rfl rfl fun a hF => ?_
                  refine sk hF (wu hF rfl rfl rfl) rfl rfl fun a hF => ?_
                  refine sk hF (wu hF rfl rfl rfl) rfl rfl fun a hF => ?_
                  refine sk hF (wu hF rfl rfl rfl) rfl rfl fun a hF => ?_
                  refine sk hF (wu hF rfl rfl rfl) rfl rfl fun a hF => ?_
                  refine sk hF (wu hF rfl rfl rfl) rfl rfl fun a hF => ?_
                  refine sk hF (ws hF rfl rfl rfl rfl) rfl rfl fun a hF => ?_
                  refine sv' hF (wy hF rfl rfl rfl) rfl rfl (R.pickF (hF.ev rfl) (hF.ev rfl)) fun a hF => ?_
                  refine sv' hF (wy hF rfl rfl rfl) rfl rfl (R.pickF (hF.ev rfl) (hF.ev rfl)) fun a hF => ?_
                  refine sv' hF (wn rfl) rfl rfl (R.pickT (hF.ev rfl) (hF.ev rfl)) fun a hF => ?_
                  refine s0 ?_
                  exact then_n (hK21' _ _ ⟨hF.sub ⟨rfl, rfl, rfl, rfl, (congrArg (fun z => some (Value.bool z)) (by first | exact (decide_eq_true (by omega)).symm | exact (decide_eq_false (by omega)).symm | exact decide_eq_decide.2 (by omega))), trivial⟩, hS.sel [] rfl rfl⟩)
            ·
              refine sk hF (ws hF rfl rfl rfl rfl) rfl rfl fun a hF => ?_
              refine sk hF (ws hF rfl rfl rfl rfl) rfl rfl fun a hF => ?_
              refine sk hF (ws hF rfl rfl rfl rfl) rfl rfl fun a hF => ?_
              refine sk hF (wu hF rfl rfl rfl) rfl rfl fun a hF => ?_
              refine sk hF (wu hF rfl rfl rfl) rfl rfl fun a hF => ?_
              refine sk hF (wu hF rfl rfl rfl) rfl rfl fun a hF => ?_
              refine sk hF (wu hF rfl rfl rfl) rfl rfl fun a hF => ?_
              refine sk hF (wu hF rfl rfl rfl) rfl rfl fun a hF => ?_
              refine sk hF (wu hF rfl rfl rfl) rfl rfl fun a hF => ?_
              refine sk hF (ws hF rfl rfl rfl rfl) rfl rfl fun a hF => ?_
              refine sk hF (ws hF rfl rfl rfl rfl) rfl rfl fun a hF => ?_
              refine sk hF (wu hF rfl rfl rfl) rfl rfl fun a hF => ?_
              refine sk hF (wu hF rfl rfl rfl) rfl rfl fun a hF => ?_
              refine sk hF (wu hF rfl rfl rfl) rfl rfl fun a hF => ?_
              refine sk hF (wu hF rfl rfl rfl) rfl rfl fun a hF => ?_
              refine sk hF (wu hF rfl rfl rfl) rfl rfl fun a hF => ?_
              refine sk hF (wu hF rfl rfl rfl) rfl rfl fun a hF => ?_
              refine sk hF (wu hF rfl rfl rfl) rfl rfl fun a hF => ?_
              refine sk hF (wu hF rfl rfl rfl) rfl rfl fun a hF => ?_
              refine sk hF (wu hF rfl rfl rfl) rfl rfl fun a hF => ?_
              refine sk hF (wu hF rfl rfl rfl) rfl rfl fun a hF => ?_
              refine sk hF (wu hF rfl rfl rfl) rfl rfl fun a hF => ?_
              refine sk hF (wu hF rfl rfl rfl) rfl rfl fun a hF => ?_
              refine sk hF (wu hF rfl rfl rfl) rfl rfl fun a hF => ?_
              refine sk hF (wu hF rfl rfl rfl) rfl rfl fun a hF => ?_
              refine sk hF (wu hF rfl rfl rfl) rfl rfl fun a hF => ?_
              refine sk hF (wu hF rfl rfl rfl) rfl rfl fun a hF => ?_
              refine sk hF (wu hF rfl rfl rfl) rfl rfl fun a hF => ?_
              refine sk hF (wu hF rfl rfl rfl) rfl rfl fun a hF => ?_
              refine sk hF (ws hF rfl rfl rfl rfl) rfl rfl fun a hF => ?_
              refine sv' hF (wn rfl) rfl rfl (R.pickF (hF.ev rfl) (hF.ev rfl)) fun a hF => ?_
              refine s0 ?_
              exact then_n (hK21' _ _ ⟨hF.sub ⟨rfl, rfl, rfl, rfl, (congrArg (fun z => some (Value.bool z)) (by first | exact (decide_eq_true (by omega)).symm | exact (decide_eq_false (by omega)).symm | exact decide_eq_decide.2 (by omega))), trivial⟩, hS.sel [] rfl rfl⟩)
          ·
            refine wp_skip ?_
            exact then_n (hK8' _ _ ⟨m, hF.sub ⟨rfl, rfl, rfl, (congrArg (fun z => some (Value.int .i64 z)) (by omega)), trivial⟩, hS.sel [] rfl rfl, by omega⟩)
        refine wp_region_lit ?_
        refine sv' hF (wn rfl) rfl rfl (R.move (hF.ev rfl)) fun a hF => ?_
        refine sv' hF (wn rfl) rfl rfl (R.eql (hF.ev rfl) (hF.ev rfl)) fun a hF => ?_
        refine sv' hF (wn rfl) rfl rfl (R.move (hF.ev rfl)) fun a hF => ?_
        refine hF.splitD (t := 60) rfl (fun h60 hF => ?_) (fun h60 hF => ?_)
        ·
          refine sk hF (ws hF rfl rfl rfl rfl) rfl rfl fun a hF => ?_
          refine sk hF (ws hF rfl rfl rfl rfl) rfl rfl fun a hF => ?_
          refine sv' hF (wn rfl) rfl rfl (R.pickT (hF.ev rfl) (hF.ev rfl)) fun a hF => ?_
          refine sv' hF (wn rfl) rfl rfl (R.move (hF.ev rfl)) fun a hF => ?_
          refine sk hF (ws hF rfl rfl rfl rfl) rfl rfl fun a hF => ?_
          refine sk hF (ws hF rfl rfl rfl rfl) rfl rfl fun a hF => ?_
          refine sv' hF (wn rfl) rfl rfl (R.pickT (hF.ev rfl) (hF.ev rfl)) fun a hF => ?_
          refine s0 ?_
          exact then_n (hK19' _ _ ⟨m, hF.sub ⟨rfl, rfl, rfl, rfl, (congrArg (fun z => some (Value.bool z)) (by first | exact (decide_eq_true (by omega)).symm | exact (decide_eq_false (by omega)).symm | exact decide_eq_decide.2 (by omega))), trivial⟩, hS.sel [] rfl rfl, hf⟩)
        ·
          refine sv' hF (wy hF rfl rfl rfl) rfl rfl (R.move (hF.ev rfl)) fun a hF => ?_
          refine sv' hF (wy hF rfl rfl rfl) rfl rfl (R.eql (hF.ev rfl) (hF.ev rfl)) fun a hF => ?_
          refine sv' hF (wn rfl) rfl rfl (R.pickF (hF.ev rfl) (hF.ev rfl)) fun a hF => ?_
          refine sv' hF (wn rfl) rfl rfl (R.move (hF.ev rfl)) fun a hF => ?_
          refine hF.splitD (t := 64) rfl (fun h64 hF => ?_) (fun h64 hF => ?_)
          ·
            refine sk hF (ws hF rfl rfl rfl rfl) rfl rfl fun a hF => ?_
            refine sk hF (ws hF rfl rfl rfl rfl) rfl rfl fun a hF => ?_
            refine sv' hF (wn rfl) rfl rfl (R.pickT (hF.ev rfl) (hF.ev rfl)) fun a hF => ?_
            refine s0 ?_
            exact then_n (hK19' _ _ ⟨m, hF.sub ⟨rfl, rfl, rfl, rfl, (congrArg (fun z => some (Value.bool z)) (by first | exact (decide_eq_true (by omega)).symm | exact (decide_eq_false (by omega)).symm | exact decide_eq_decide.2 (by omega))), trivial⟩, hS.sel [] rfl rfl, hf⟩)
          ·
            refine sv' hF (wy hF rfl rfl rfl) rfl rfl (R.move (hF.ev rfl)) fun a hF => ?_
            refine sv' hF (wy hF rfl rfl rfl) rfl rfl (R.eql (hF.ev rfl) (hF.ev rfl)) fun a hF => ?_
            refine sv' hF (wn rfl) rfl rfl (R.pickF (hF.ev rfl) (hF.ev rfl)) fun a hF => ?_
            refine s0 ?_
            exact then_n (hK19' _ _ ⟨m, hF.sub ⟨rfl, rfl, rfl, rfl, (congrArg (fun z => some (Value.bool z)) (by first | exact (decide_eq_true (by omega)).symm | exact (decide_eq_false (by omega)).symm | exact decide_eq_decide.2 (by omega))), trivial⟩, hS.sel [] rfl rfl, hf⟩)
      refine wp_seq_k fun K23 hK23 => ?_
      refine wp_region_lit ?_
      refine sv' hF (wn rfl) rfl rfl (R.move (hF.ev rfl)) fun a hF => ?_
      refine sv' hF (wn rfl) rfl rfl (R.eql (hF.ev rfl) (hF.ev rfl)) fun a hF => ?_
      refine s0 ?_
      refine then_n (hK23 _ _ ?_)
      refine cD hF rfl (fun c7 => ?_) (fun c7 => ?_)
      ·
        refine wp_seq_k fun K24 hK24 => ?_
        refine wp_seq_k fun K25 hK25 => ?_
        have hK25' : ∀ a w, (Fr 118 [(0, .slice A n c), (1, .int .i64 ((p : Nat) : Int)), (5, .int .i64 ((cAt xs p : Nat) : Int)), (50, .bool (decide (n ≤ p + 1 ∨ cAt xs (p + 1) < 1 ∨ 32 < cAt xs (p + 1))))] a ∧ St w0 [] [] w) → K25 a w := by
          rintro a w ⟨hF, hS⟩
          refine hK25 _ _ ?_
          refine cD hF rfl (fun c8 => ?_) (fun c8 => ?_)
          ·
            refine wp_seq_k fun K26 hK26 => ?_
            refine wp_region_lit ?_
            refine sv' hF (wn rfl) rfl rfl (R.assign (hF.ev rfl)) fun a hF => ?_
            refine s0 ?_
            refine then_n (hK26 _ _ ?_)
            refine wp_ret (then_r (then_r (hR _ _ _ _ _ hF (run_results Try.results25 (.t hF rfl (.nil))) ?_)))
            exact ⟨_, [], rfl, ⟨size_i (by unfold sizeN; (repeat' split) <;> omega), rfl⟩, hS.none⟩
          ·
            refine wp_skip ?_
            refine then_n (hK24 _ _ ?_)
            refine wp_region_lit ?_
            refine sv' hF (wn rfl) rfl rfl (R.move (hF.ev rfl)) fun a hF => ?_
            refine sv' hF (wn rfl) rfl rfl (R.move (hF.ev rfl)) fun a hF => ?_
            refine sv' hF (wn rfl) rfl rfl (R.addI (hF.ev rfl) (hF.ev rfl) (by omega)) fun a hF => ?_
            refine sv' hF (wn rfl) rfl rfl (R.indexO Try.underlying23 sz5 (hF.ev rfl) (Rd.ne hA (by rw [length_byts]; omega)) (hF.ev rfl) (by omega) (by omega)) fun a hF => ?_
            refine sv' hF (wn rfl) rfl rfl (R.loadO one5 (hF.ev rfl) (hA.old hS) (cb_at (i := p + 1) (by omega) (by omega))) fun a hF => ?_
            refine sv' hF (wn rfl) rfl rfl (R.convI Try.underlying5 Try.underlying3 (hF.ev rfl) (by omega)) fun a hF => ?_
            refine sv' hF (wn rfl) rfl rfl (R.addI (hF.ev rfl) (hF.ev rfl) (by omega)) fun a hF => ?_
            refine sv' hF (wn rfl) rfl rfl (R.assign (hF.ev rfl)) fun a hF => ?_
            refine s0 ?_
            exact then_n (hK7' _ _ ⟨2 + cAt xs (p + 1), hF.sub ⟨rfl, rfl, rfl, (congrArg (fun z => some (Value.int .i64 z)) (by omega)), trivial⟩, hS.sel [] rfl rfl, by omega⟩)
        refine wp_region_lit ?_
        refine sv' hF (wn rfl) rfl rfl (R.move (hF.ev rfl)) fun a hF => ?_
        refine sv' hF (wn rfl) rfl rfl (R.addI (hF.ev rfl) (hF.ev rfl) (by omega)) fun a hF => ?_
        refine sv' hF (wn rfl) rfl rfl (R.move (hF.ev rfl)) fun a hF => ?_
        refine sv' hF (wn rfl) rfl rfl (R.len Try.underlying23 (hF.ev rfl)) fun a hF => ?_
        refine sv' hF (wn rfl) rfl rfl (R.geq (hF.ev rfl) (hF.ev rfl)) fun a hF => ?_
        refine sv' hF (wn rfl) rfl rfl (R.move (hF.ev rfl)) fun a hF => ?_
        refine hF.splitD (t := 35) rfl (fun h35 hF => ?_) (fun h35 hF => ?_)
        ·
          refine sk hF (ws hF rfl rfl rfl rfl) rfl rfl fun a hF => ?_
          refine sk hF (ws hF rfl rfl rfl rfl) rfl rfl fun a hF => ?_
          refine sk hF (ws hF rfl rfl rfl rfl) rfl rfl fun a hF => ?_
          refine sk hF (ws hF rfl rfl rfl rfl) rfl rfl fun a hF => ?_
          refine sk hF (ws hF rfl rfl rfl rfl) rfl rfl fun a hF => ?_
          refine sk hF (ws hF rfl rfl rfl rfl) rfl rfl fun a hF => ?_
          refine sv' hF (wn rfl) rfl rfl (R.pickT (hF.ev rfl) (hF.ev rfl)) fun a hF => ?_
          refine sv' hF (wn rfl) rfl rfl (R.move (hF.ev rfl)) fun a hF => ?_
          refine sk hF (ws hF rfl rfl rfl rfl) rfl rfl fun a hF => ?_
          refine sk hF (ws hF rfl rfl rfl rfl) rfl rfl fun a hF => ?_
          refine sk hF (ws hF rfl rfl rfl rfl) rfl rfl fun a hF => ?_
          refine sk hF (ws hF rfl rfl rfl rfl) rfl rfl fun a hF => ?_
          refine sk hF (ws hF rfl rfl rfl rfl) rfl rfl fun a hF => ?_
          refine sk hF (ws hF rfl rfl rfl rfl) rfl rfl fun a hF => ?_
          refine sv' hF (wn rfl) rfl rfl (R.pickT (hF.ev rfl) (hF.ev rfl)) fun a hF => ?_
          refine s0 ?_
          exact then_n (hK25' _ _ ⟨hF.sub ⟨rfl, rfl, rfl, (congrArg (fun z => some (Value.bool z)) (by first | exact (decide_eq_true (by omega)).symm | exact (decide_eq_false (by omega)).symm | exact decide_eq_decide.2 (by omega))), trivial⟩, hS.sel [] rfl rfl⟩)
        ·
          refine sv' hF (wy hF rfl rfl rfl) rfl rfl (R.move (hF.ev rfl)) fun a hF => ?_
          refine sv' hF (wy hF rfl rfl rfl) rfl rfl (R.move (hF.ev rfl)) fun a hF => ?_
          refine sv' hF (wy hF rfl rfl rfl) rfl rfl (R.addI (hF.ev rfl) (hF.ev rfl) (by omega)) fun a hF => ?_
          refine sv' hF (wy hF rfl rfl rfl) rfl rfl (R.indexO Try.underlying23 sz5 (hF.ev rfl) (Rd.ne hA (by rw [length_byts]; omega)) (hF.ev rfl) (by omega) (by omega)) fun a hF => ?_
          refine sv' hF (wy hF rfl rfl rfl) rfl rfl (R.loadO one5 (hF.ev rfl) (hA.old hS) (cb_at (i := p + 1) (by omega) (by omega))) fun a hF => ?_
          refine sv' hF (wy hF rfl rfl rfl) rfl rfl (R.lss (hF.ev rfl) (hF.ev rfl)) fun a hF => ?_
          refine sv' hF (wn rfl) rfl rfl (R.pickF (hF.ev rfl) (hF.ev rfl)) fun a hF => ?_
          refine sv' hF (wn rfl) rfl rfl (R.move (hF.ev rfl)) fun a hF => ?_
          refine hF.splitD (t := 43) rfl (fun h43 hF => ?_) (fun h43 hF => ?_)
          ·
            refine sk hF (ws hF rfl rfl rfl rfl) rfl rfl fun a hF => ?_
            refine sk hF (ws hF rfl rfl rfl rfl) rfl rfl fun a hF => ?_
            refine sk hF (ws hF rfl rfl rfl rfl) rfl rfl fun a hF => ?_
            refine sk hF (ws hF rfl rfl rfl rfl) rfl rfl fun a hF => ?_
            refine sk hF (ws hF rfl rfl rfl rfl) rfl rfl fun a hF => ?_
            refine sk hF (ws hF rfl rfl rfl rfl) rfl rfl fun a hF => ?_
            refine sv' hF (wn rfl) rfl rfl (R.pickT (hF.ev rfl) (hF.ev rfl)) fun a hF => ?_
            refine s0 ?_
            exact then_n (hK25' _ _ ⟨hF.sub ⟨rfl, rfl, rfl, (congrArg (fun z => some (Value.bool z)) (by first | exact (decide_eq_true (by omega)).symm | exact (decide_eq_false (by omega)).symm | exact decide_eq_decide.2 (by omega))), trivial⟩, hS.sel [] rfl rfl⟩)
          ·
            refine sv' hF (wy hF rfl rfl rfl) rfl rfl (R.move (hF.ev rfl)) fun a hF => ?_
            refine sv' hF (wy hF rfl rfl rfl) rfl rfl (R.move (hF.ev rfl)) fun a hF => ?_
            refine sv' hF (wy hF rfl rfl rfl) rfl rfl (R.addI (hF.ev rfl) (hF.ev rfl) (by omega)) fun a hF => ?_
            refine sv' hF (wy hF rfl rfl rfl) rfl rfl (R.indexO Try.underlying23 sz5 (hF.ev rfl) (Rd.ne hA (by rw [length_byts]; omega)) (hF.ev rfl) (by omega) (by omega)) fun a hF => ?_
            refine sv' hF (wy hF rfl rfl rfl) rfl rfl (R.loadO one5 (hF.ev rfl) (hA.old hS) (cb_at (i := p + 1) (by omega) (by omega))) fun a hF => ?_
            refine sv' hF (wy hF rfl rfl rfl) rfl rfl (R.gtr (hF.ev rfl) (hF.ev rfl)) fun a hF => ?_
            refine sv' hF (wn rfl) rfl rfl (R.pickF (hF.ev rfl) (hF.ev rfl)) fun a hF => ?_
            refine s0 ?_
            exact then_n (hK25' _ _ ⟨hF.sub ⟨rfl, rfl, rfl, (congrArg (fun z => some (Value.bool z)) (by first | exact (decide_eq_true (by omega)).symm | exact (decide_eq_false (by omega)).symm | exact decide_eq_decide.2 (by omega))), trivial⟩, hS.sel [] rfl rfl⟩)
      ·
        refine wp_skip ?_
        exact then_n (hK7' _ _ ⟨1, hF.sub ⟨rfl, rfl, rfl, (congrArg (fun z => some (Value.int .i64 z)) (by omega)), trivial⟩, hS.sel [] rfl rfl, by omega⟩)
  refine wp_region_lit ?_
  refine sv' hF (wn rfl) rfl rfl (R.move (hF.ev rfl)) fun a hF => ?_
  refine sv' hF (wn rfl) rfl rfl (R.lss (hF.ev rfl) (hF.ev rfl)) fun a hF => ?_
  refine sv' hF (wn rfl) rfl rfl (R.move (hF.ev rfl)) fun a hF => ?_
  refine hF.splitD (t := 9) rfl (fun h9 hF => ?_) (fun h9 hF => ?_)
  ·
    refine sk hF (ws hF rfl rfl rfl rfl) rfl rfl fun a hF => ?_
    refine sk hF (ws hF rfl rfl rfl rfl) rfl rfl fun a hF => ?_
    refine sk hF (ws hF rfl rfl rfl rfl) rfl rfl fun a hF => ?_
    refine sk hF (ws hF rfl rfl rfl rfl) rfl rfl fun a hF => ?_
    refine sv' hF (wn rfl) rfl rfl (R.pickT (hF.ev rfl) (hF.ev rfl)) fun a hF => ?_
    refine sv' hF (wn rfl) rfl rfl (R.move (hF.ev rfl)) fun a hF => ?_
    refine sk hF (ws hF rfl rfl rfl rfl) rfl rfl fun a hF => ?_
    refine sk hF (ws hF rfl rfl rfl rfl) rfl rfl fun a hF => ?_
    refine sk hF (ws hF rfl rfl rfl rfl) rfl rfl fun a hF => ?_
    refine sk hF (ws hF rfl rfl rfl rfl) rfl rfl fun a hF => ?_
    refine sk hF (ws hF rfl rfl rfl rfl) rfl rfl fun a hF => ?_
    refine sk hF (ws hF rfl rfl rfl rfl) rfl rfl fun a hF => ?_
    refine sv' hF (wn rfl) rfl rfl (R.pickT (hF.ev rfl) (hF.ev rfl)) fun a hF => ?_
    refine s0 ?_
    exact then_n (hK3' _ _ ⟨hF.sub ⟨rfl, rfl, (congrArg (fun z => some (Value.bool z)) (by first | exact (decide_eq_true (by omega)).symm | exact (decide_eq_false (by omega)).symm | exact decide_eq_decide.2 (by omega))), trivial⟩, hS.sel [] rfl rfl⟩)
  ·
    refine sv' hF (wy hF rfl rfl rfl) rfl rfl (R.move (hF.ev rfl)) fun a hF => ?_
    refine sv' hF (wy hF rfl rfl rfl) rfl rfl (R.move (hF.ev rfl)) fun a hF => ?_
    refine sv' hF (wy hF rfl rfl rfl) rfl rfl (R.len Try.underlying23 (hF.ev rfl)) fun a hF => ?_
    refine sv' hF (wy hF rfl rfl rfl) rfl rfl (R.geq (hF.ev rfl) (hF.ev rfl)) fun a hF => ?_
    refine sv' hF (wn rfl) rfl rfl (R.pickF (hF.ev rfl) (hF.ev rfl)) fun a hF => ?_
    refine sv' hF (wn rfl) rfl rfl (R.move (hF.ev rfl)) fun a hF => ?_
    refine hF.splitD (t := 15) rfl (fun h15 hF => ?_) (fun h15 hF => ?_)
    ·
      refine sk hF (ws hF rfl rfl rfl rfl) rfl rfl fun a hF => ?_
      refine sk hF (ws hF rfl rfl rfl rfl) rfl rfl fun a hF => ?_
      refine sk hF (ws hF rfl rfl rfl rfl) rfl rfl fun a hF => ?_
      refine sk hF (ws hF rfl rfl rfl rfl) rfl rfl fun a hF => ?_
      refine sk hF (ws hF rfl rfl rfl rfl) rfl rfl fun a hF => ?_
      refine sk hF (ws hF rfl rfl rfl rfl) rfl rfl fun a hF => ?_
      refine sv' hF (wn rfl) rfl rfl (R.pickT (hF.ev rfl) (hF.ev rfl)) fun a hF => ?_
      refine s0 ?_
      exact then_n (hK3' _ _ ⟨hF.sub ⟨rfl, rfl, (congrArg (fun z => some (Value.bool z)) (by first | exact (decide_eq_true (by omega)).symm | exact (decide_eq_false (by omega)).symm | exact decide_eq_decide.2 (by omega))), trivial⟩, hS.sel [] rfl rfl⟩)
    ·
      refine sv' hF (wy hF rfl rfl rfl) rfl rfl (R.move (hF.ev rfl)) fun a hF => ?_
      refine sv' hF (wy hF rfl rfl rfl) rfl rfl (R.move (hF.ev rfl)) fun a hF => ?_
      refine sv' hF (wy hF rfl rfl rfl) rfl rfl (R.indexO Try.underlying23 sz5 (hF.ev rfl) (Rd.ne hA (by rw [length_byts]; omega)) (hF.ev rfl) (by omega) (by omega)) fun a hF => ?_
      refine sv' hF (wy hF rfl rfl rfl) rfl rfl (R.loadO one5 (hF.ev rfl) (hA.old hS) (cb_at (i := p) (by omega) (by omega))) fun a hF => ?_
      refine sv' hF (wy hF rfl rfl rfl) rfl rfl (R.convI Try.underlying5 Try.underlying3 (hF.ev rfl) (by omega)) fun a hF => ?_
      refine sv' hF (wy hF rfl rfl rfl) rfl rfl (R.geq (hF.ev rfl) (hF.ev rfl)) fun a hF => ?_
      refine sv' hF (wn rfl) rfl rfl (R.pickF (hF.ev rfl) (hF.ev rfl)) fun a hF => ?_
      refine s0 ?_
      exact then_n (hK3' _ _ ⟨hF.sub ⟨rfl, rfl, (congrArg (fun z => some (Value.bool z)) (by first | exact (decide_eq_true (by omega)).symm | exact (decide_eq_false (by omega)).symm | exact decide_eq_decide.2 (by omega))), trivial⟩, hS.sel [] rfl rfl⟩)

theorem rtarget_calls (A : Option Addr) (n c : Nat) (xs : List Nat) (p : Nat) (w0 : World) (hA : Rd w0 A (byts xs)) (hn : xs.length = n) (hnc : n ≤ c) (hc : c ≤ 9223372036854775807) (hB : Byt xs) (hp : p + 3 ≤ n) : Ret Try.prog 24 [.slice A n c, .int .i64 ((p : Nat) : Int)] w0 [] (fun v s => v = .int .i64 ((targetN xs p : Nat) : Int) ∧ s = []) := by
  refine fn_start Try.func24 rfl Try.ntmps24 rfl [(0, .slice A n c), (1, .int .i64 ((p : Nat) : Int))] ⟨rfl, rfl, trivial⟩ ?_
  intro Q a hP hF hR hN
  have hS := St.start w0
  have hb1 := cAt_lt hB (p + 1); have hb2 := cAt_lt hB (p + 2)
  refine wp_seq_k fun K1 hK1 => ?_
  refine wp_region_lit ?_
  refine sv' hF (wn rfl) rfl rfl (R.assign (hF.ev rfl)) fun a hF => ?_
  refine s0 ?_
  refine then_n (hK1 _ _ ?_)
  refine wp_seq_k fun K2 hK2 => ?_
  refine wp_drawS hS [(0, 0), (1, 0), (2, 0), (3, 0), (4, 1), (5, 0), (6, 0), (7, 0), (8, 0), (9, 0), (10, 0), (11, 1), (12, 0), (13, 0), (14, 0)] mix (by kernel_rfl) (hP.then) fun w hS => ?_
  have hD := hS
  refine dq hF rfl (wn rfl) rfl rfl (fun w => R.move (hF.ev rfl)) fun a hF => ?_
  refine dq hF rfl (wn rfl) rfl rfl (fun w => R.move (hF.ev rfl)) fun a hF => ?_
  refine dq hF rfl (wn rfl) rfl rfl (fun w => R.addI (hF.ev rfl) (hF.ev rfl) (by omega)) fun a hF => ?_
  refine dq hF rfl (wn rfl) rfl rfl (fun w => R.indexO Try.underlying23 sz5 (hF.ev rfl) (Rd.ne hA (by rw [length_byts]; omega)) (hF.ev rfl) (by omega) (by omega)) fun a hF => ?_
  refine dr hF rfl (wn rfl) rfl rfl hD (fun w hD => R.loadO one5 (hF.ev rfl) (hA.old hD) (cb_at (i := p + 1) (by omega) (by omega))) fun a hF => ?_
  refine dq hF rfl (wn rfl) rfl rfl (fun w => R.convI Try.underlying5 Try.underlying3 (hF.ev rfl) (by omega)) fun a hF => ?_
  refine dq hF rfl (wn rfl) rfl rfl (fun w => R.mulI (hF.ev rfl) (hF.ev rfl) (by omega)) fun a hF => ?_
  refine dq hF rfl (wn rfl) rfl rfl (fun w => R.move (hF.ev rfl)) fun a hF => ?_
  refine dq hF rfl (wn rfl) rfl rfl (fun w => R.move (hF.ev rfl)) fun a hF => ?_
  refine dq hF rfl (wn rfl) rfl rfl (fun w => R.addI (hF.ev rfl) (hF.ev rfl) (by omega)) fun a hF => ?_
  refine dq hF rfl (wn rfl) rfl rfl (fun w => R.indexO Try.underlying23 sz5 (hF.ev rfl) (Rd.ne hA (by rw [length_byts]; omega)) (hF.ev rfl) (by omega) (by omega)) fun a hF => ?_
  refine dr hF rfl (wn rfl) rfl rfl hD (fun w hD => R.loadO one5 (hF.ev rfl) (hA.old hD) (cb_at (i := p + 2) (by omega) (by omega))) fun a hF => ?_
  refine dq hF rfl (wn rfl) rfl rfl (fun w => R.convI Try.underlying5 Try.underlying3 (hF.ev rfl) (by omega)) fun a hF => ?_
  refine dq hF rfl (wn rfl) rfl rfl (fun w => R.addI (hF.ev rfl) (hF.ev rfl) (by omega)) fun a hF => ?_
  refine dq hF rfl (wn rfl) rfl rfl (fun w => R.assign (hF.ev rfl)) fun a hF => ?_
  refine d0 ?_
  refine then_n (hK2 _ _ ?_)
  refine wp_ret (hR _ _ _ _ _ hF (run_results Try.results24 (.t hF rfl (.nil))) ?_)
  exact ⟨_, [], rfl, ⟨congrArg (Value.int .i64) (by unfold targetN; omega), rfl⟩, hS.none⟩

theorem target_calls (A : Option Addr) (n c : Nat) (xs : List Nat) (p : Nat) (w0 : World) (hA : Rd w0 A (byts xs)) (hn : xs.length = n) (hnc : n ≤ c) (hc : c ≤ 9223372036854775807) (hB : Byt xs) (hp : p + 3 ≤ n) : Ret Try.prog 21 [.slice A n c, .int .i64 ((p : Nat) : Int)] w0 [] (fun v s => v = .int .i64 ((targetN xs p : Nat) : Int) ∧ s = []) := by
  refine fn_start Try.func21 rfl Try.ntmps21 rfl [(0, .slice A n c), (1, .int .i64 ((p : Nat) : Int))] ⟨rfl, rfl, trivial⟩ ?_
  intro Q a hP hF hR hN
  have hS := St.start w0
  have hb1 := cAt_lt hB (p + 1); have hb2 := cAt_lt hB (p + 2)
  refine wp_seq_k fun K1 hK1 => ?_
  refine wp_region_lit ?_
  refine sv' hF (wn rfl) rfl rfl (R.assign (hF.ev rfl)) fun a hF => ?_
  refine s0 ?_
  refine then_n (hK1 _ _ ?_)
  refine wp_seq_k fun K2 hK2 => ?_
  refine wp_drawS hS [(0, 0), (1, 0), (2, 0), (3, 0), (4, 1), (5, 0), (6, 0), (7, 0), (8, 0), (9, 0), (10, 0), (11, 1), (12, 0), (13, 0), (14, 0)] mix (by kernel_rfl) (hP.then) fun w hS => ?_
  have hD := hS
  refine dq hF rfl (wn rfl) rfl rfl (fun w => R.move (hF.ev rfl)) fun a hF => ?_
  refine dq hF rfl (wn rfl) rfl rfl (fun w => R.move (hF.ev rfl)) fun a hF => ?_
  refine dq hF rfl (wn rfl) rfl rfl (fun w => R.addI (hF.ev rfl) (hF.ev rfl) (by omega)) fun a hF => ?_
  refine dq hF rfl (wn rfl) rfl rfl (fun w => R.indexO Try.underlying23 sz5 (hF.ev rfl) (Rd.ne hA (by rw [length_byts]; omega)) (hF.ev rfl) (by omega) (by omega)) fun a hF => ?_
  refine dr hF rfl (wn rfl) rfl rfl hD (fun w hD => R.loadO one5 (hF.ev rfl) (hA.old hD) (cb_at (i := p + 1) (by omega) (by omega))) fun a hF => ?_
  refine dq hF rfl (wn rfl) rfl rfl (fun w => R.convI Try.underlying5 Try.underlying3 (hF.ev rfl) (by omega)) fun a hF => ?_
  refine dq hF rfl (wn rfl) rfl rfl (fun w => R.shlI (m := 8) (hF.ev rfl) (hF.ev rfl) (by decide) (by omega)) fun a hF => ?_
  refine dq hF rfl (wn rfl) rfl rfl (fun w => R.move (hF.ev rfl)) fun a hF => ?_
  refine dq hF rfl (wn rfl) rfl rfl (fun w => R.move (hF.ev rfl)) fun a hF => ?_
  refine dq hF rfl (wn rfl) rfl rfl (fun w => R.addI (hF.ev rfl) (hF.ev rfl) (by omega)) fun a hF => ?_
  refine dq hF rfl (wn rfl) rfl rfl (fun w => R.indexO Try.underlying23 sz5 (hF.ev rfl) (Rd.ne hA (by rw [length_byts]; omega)) (hF.ev rfl) (by omega) (by omega)) fun a hF => ?_
  refine dr hF rfl (wn rfl) rfl rfl hD (fun w hD => R.loadO one5 (hF.ev rfl) (hA.old hD) (cb_at (i := p + 2) (by omega) (by omega))) fun a hF => ?_
  refine dq hF rfl (wn rfl) rfl rfl (fun w => R.convI Try.underlying5 Try.underlying3 (hF.ev rfl) (by omega)) fun a hF => ?_
  refine dq hF rfl (wn rfl) rfl rfl (fun w => R.as (u := .int .i64 ((targetN xs p : Nat) : Int)) (R.orI (hF.ev rfl) (hF.ev rfl) (by omega) (by omega)) (congrArg (fun z : Nat => Value.int .i64 (z : Int)) (or8_as hb2))) fun a hF => ?_
  refine dq hF rfl (wn rfl) rfl rfl (fun w => R.assign (hF.ev rfl)) fun a hF => ?_
  refine d0 ?_
  refine then_n (hK2 _ _ ?_)
  refine wp_ret (hR _ _ _ _ _ hF (run_results Try.results21 (.t hF rfl (.nil))) ?_)
  exact ⟨_, [], rfl, ⟨rfl, rfl⟩, hS.none⟩

theorem among_calls (A : Option Addr) (n c x : Nat) (l : List Nat) (w0 : World) (hA : Rd w0 A (ints l)) (hn : l.length = n) (hc : n ≤ 9223372036854775807) : Ret Try.prog 23 [.slice A n c, .int .i64 ((x : Nat) : Int)] w0 [] (fun v s => v = .bool (l.contains x) ∧ s = []) := by
  refine fn_start Try.func23 rfl Try.ntmps23 rfl [(0, .slice A n c), (1, .int .i64 ((x : Nat) : Int))] ⟨rfl, rfl, trivial⟩ ?_
  intro Q a hP hF hR hN
  have hS := St.start w0
  refine wp_seq_k fun K1 hK1 => ?_
  refine wp_region_lit ?_
  refine sv' hF (wn rfl) rfl rfl (R.assign (hF.ev rfl)) fun a hF => ?_
  refine s0 ?_
  refine then_n (hK1 _ _ ?_)
  refine wp_seq_k fun K2 hK2 => ?_
  refine wp_seq_k fun K3 hK3 => ?_
  refine wp_region_lit ?_
  refine sv' hF (wn rfl) rfl rfl (R.assign (hF.ev rfl)) fun a hF => ?_
  refine s0 ?_
  refine then_n (hK3 _ _ ?_)
  refine wp_block ?_
  refine wp_loop_N (fun g a w => ∃ (i : Nat), n - i = g ∧ Fr 18 [(0, .slice A n c), (1, .int .i64 ((x : Nat) : Int)), (5, .int .i64 ((i : Nat) : Int))] a ∧ St w0 [] [] w ∧ (i ≤ n) ∧ ((l.take i).contains x = false)) (n - 0) ?_ ?_
  · exact ⟨0, rfl, hF.sub ⟨rfl, rfl, rfl, trivial⟩, hS.sel [] rfl rfl, by omega, rfl⟩
  · rintro KL1 g a w ⟨i, hg1, hF, hS, hi, hl⟩ hKL1
    refine wp_seq_k fun K4 hK4 => ?_
    refine wp_seq_k fun K5 hK5 => ?_
    refine wp_region_lit ?_
    refine sv' hF (wn rfl) rfl rfl (R.move (hF.ev rfl)) fun a hF => ?_
    refine sv' hF (wn rfl) rfl rfl (R.move (hF.ev rfl)) fun a hF => ?_
    refine sv' hF (wn rfl) rfl rfl (R.len Try.underlying61 (hF.ev rfl)) fun a hF => ?_
    refine sv' hF (wn rfl) rfl rfl (R.lss (hF.ev rfl) (hF.ev rfl)) fun a hF => ?_
    refine s0 ?_
    refine then_n (hK5 _ _ ?_)
    refine cD hF rfl (fun c1 => ?_) (fun c1 => ?_)
    ·
      refine wp_skip ?_
      refine then_n (hK4 _ _ ?_)
      refine wp_seq_k fun K6 hK6 => ?_
      refine wp_block ?_
      refine wp_seq_k fun K7 hK7 => ?_
      refine wp_region_lit ?_
      refine sv' hF (wn rfl) rfl rfl (R.move (hF.ev rfl)) fun a hF => ?_
      refine sv' hF (wn rfl) rfl rfl (R.move (hF.ev rfl)) fun a hF => ?_
      refine sv' hF (wn rfl) rfl rfl (R.indexO Try.underlying61 sz3 (hF.ev rfl) (Rd.ne hA (by rw [length_ints]; omega)) (hF.ev rfl) (by omega) (by omega)) fun a hF => ?_
      refine sv' hF (wn rfl) rfl rfl (R.loadO one3 (hF.ev rfl) (hA.old hS) (ints_get (i := i) (by omega) (by omega))) fun a hF => ?_
      refine sv' hF (wn rfl) rfl rfl (R.move (hF.ev rfl)) fun a hF => ?_
      refine sv' hF (wn rfl) rfl rfl (R.eql (hF.ev rfl) (hF.ev rfl)) fun a hF => ?_
      refine s0 ?_
      refine then_n (hK7 _ _ ?_)
      refine cD hF rfl (fun c2 => ?_) (fun c2 => ?_)
      ·
        refine wp_seq_k fun K8 hK8 => ?_
        refine wp_region_lit ?_
        refine sv' hF (wn rfl) rfl rfl (R.assign (hF.ev rfl)) fun a hF => ?_
        refine s0 ?_
        refine then_n (hK8 _ _ ?_)
        refine wp_ret (blk_r (then_r (then_r (blk_r (then_r (hR _ _ _ _ _ hF (run_results Try.results23 (.t hF rfl (.nil))) ?_))))))
        exact ⟨_, [], rfl, ⟨congrArg Value.bool (take_has (i := i) (by omega) c2).symm, rfl⟩, hS.none⟩
      ·
        refine wp_skip ?_
        refine blk_n ?_
        refine then_n (hK6 _ _ ?_)
        refine wp_region_lit ?_
        refine sv' hF (wn rfl) rfl rfl (R.move (hF.ev rfl)) fun a hF => ?_
        refine sv' hF (wn rfl) rfl rfl (R.addI (hF.ev rfl) (hF.ev rfl) (by omega)) fun a hF => ?_
        refine sv' hF (wn rfl) rfl rfl (R.assign (hF.ev rfl)) fun a hF => ?_
        refine s0 ?_
        refine then_n (hKL1 (n - (i + 1)) _ _ ?_ ?_)
        · omega
        · exact ⟨i + 1, rfl, hF.sub ⟨rfl, rfl, (congrArg (fun z => some (Value.int .i64 z)) (by omega)), trivial⟩, hS.sel [] rfl rfl, by omega, take_nohas (by omega) hl c2⟩
    ·
      obtain rfl : i = n := by omega
      have htk : l.take i = l := List.take_of_length_le (by omega)
      rw [htk] at hl
      refine wp_exit (then_x (then_x (blk_hit ?_)))
      refine then_n (hK2 _ _ ?_)
      refine wp_seq_k fun K9 hK9 => ?_
      refine wp_region_lit ?_
      refine sv' hF (wn rfl) rfl rfl (R.assign (hF.ev rfl)) fun a hF => ?_
      refine s0 ?_
      refine then_n (hK9 _ _ ?_)
      refine wp_ret (hR _ _ _ _ _ hF (run_results Try.results23 (.t hF rfl (.nil))) ?_)
      exact ⟨_, [], rfl, ⟨congrArg Value.bool hl.symm, rfl⟩, hS.none⟩

end Go.Proofs.Ytlapmbkfmbkdoaa
