/- Part 3 of what the row MachineThereAndBack needs, with no condition beyond each lemma's own. -/
import Derived.Test.YtlapmbkfmbkdoaaGreatDoorSf2
section
namespace Go.Proofs.YtlapmbkfmbkdoaaGreatDoor
open Go Go.Fw Go.RowKit
attribute [local irreducible] Go.Oper.wp Go.Code.wp Go.wpList Go.Fw.WL Go.Calls
theorem plcs_mem {xs : List Nat} : ∀ (f p : Nat) (l : List Nat), plc xs f p = some l → ∀ q ∈ l, q < xs.length ∧ sizeN xs q ≠ 0
  | 0, _, _, h => by simp [plc] at h
  | f + 1, p, l, h => by
    simp only [plc] at h
    split at h
    · simp at h; subst h; simp
    split at h
    · simp at h
    · cases hr : plc xs f (p + sizeN xs p) with
      | none => rw [hr] at h; simp at h
      | some r =>
        rw [hr] at h
        simp only [Option.map_some, Option.some.injEq] at h
        subst h
        intro q hq
        rcases List.mem_cons.1 hq with rfl | hq
        · exact ⟨by omega, by assumption⟩
        · exact plcs_mem f _ r hr q hq
theorem places_mem {xs l : List Nat} (h : placesN xs = some l) : ∀ q ∈ l, q < xs.length ∧ sizeN xs q ≠ 0 := plcs_mem _ _ _ h
theorem jump_size {xs : List Nat} {p : Nat} (h : p < xs.length) (hs : sizeN xs p ≠ 0) (hj : isJump xs p = true) : p + 3 ≤ xs.length := by
  have h1 := (sizeN_le xs p).resolve_left hs
  have hj : cAt xs p = 14 ∨ cAt xs p = 15 := by simpa [isJump] using hj
  have : sizeN xs p = 3 := by
    revert hs; unfold sizeN
    repeat' split
    all_goals omega
  omega
theorem targetN_lt {xs : List Nat} (h : Byt xs) (p : Nat) : targetN xs p < 65536 := by
  have h1 := cAt_lt h (p + 1); have h2 := cAt_lt h (p + 2)
  unfold targetN; omega
def RetP (xs : List Nat) (v : Value) (s : Seg) : Prop := match placesN xs with
  | none => v = .tuple #[.slice none 0 0, .bool false] ∧ s = []
  | some l => ∃ A c, v = .tuple #[.slice A l.length c, .bool true] ∧ OwnS s A l.length c (ints l) 3 1
theorem RetP.none {xs : List Nat} (h : placesN xs = none) : RetP xs (.tuple #[.slice none 0 0, .bool false]) [] := by simp [RetP, h]
theorem RetP.some {xs l : List Nat} {A : Option Addr} {c : Nat} {s : Seg} (h : placesN xs = some l) (ho : OwnS s A l.length c (ints l) 3 1) : RetP xs (.tuple #[.slice A l.length c, .bool true]) s := by simp only [RetP, h]; exact ⟨A, c, rfl, ho⟩
theorem own_isnoc {s : Seg} {A : Option Addr} {c x : Nat} {b : List Nat} (h : OwnS s A (b.length + 1) c (ints b ++ [.int .i64 ((x : Nat) : Int)]) 3 1) : OwnS s A (b ++ [x]).length c (ints (b ++ [x])) 3 1 := by
  rw [List.length_append, List.length_singleton]
  simpa [ints] using h
theorem take_nohas {l : List Nat} {i x : Nat} (h : i < l.length) (hl : (l.take i).contains x = false) (h2 : ¬ ((l.getD i 0 : Nat) : Int) = (x : Int)) : (l.take (i + 1)).contains x = false := by
  rw [List.take_succ_eq_append_getElem h]
  rw [List.getD_eq_getElem?_getD, List.getElem?_eq_getElem h, Option.getD_some] at h2
  simp only [List.contains_eq_mem, List.mem_append, List.mem_singleton, decide_eq_false_iff_not] at hl ⊢
  rintro (h3 | h3)
  · exact hl h3
  · exact h2 (by omega)
theorem take_has {l : List Nat} {i x : Nat} (h : i < l.length) (h2 : ((l.getD i 0 : Nat) : Int) = (x : Int)) : l.contains x = true := by
  rw [List.getD_eq_getElem?_getD, List.getElem?_eq_getElem h, Option.getD_some] at h2
  have : l[i] = x := by omega
  simp only [List.contains_eq_mem, decide_eq_true_eq]
  exact this ▸ List.getElem_mem h
theorem ints_get {l : List Nat} {i off : Nat} (h : i < l.length) (ho : off = i) : (ints l)[off]? = some (.int .i64 ((l.getD i 0 : Nat) : Int)) := by
  subst ho; simp [ints, h, List.getD_eq_getElem?_getD]
theorem or8_as {xs : List Nat} {p : Nat} (h2 : cAt xs (p + 2) < 256) : cAt xs (p + 1) * 2 ^ 8 ||| cAt xs (p + 2) = targetN xs p := by
  rw [Nat.mul_comm, ← Nat.two_pow_add_eq_or_of_lt (i := 8) h2, Nat.mul_comm]; rfl
set_option maxHeartbeats 4000000 in
theorem rsize_calls (A : Option Addr) (n c : Nat) (xs : List Nat) (p : Nat) (w0 : World) (hA : Rd w0 A (byts xs)) (hn : xs.length = n) (hnc : n ≤ c) (hc : c ≤ 9223372036854775807) (hB : Byt xs) (hp : p ≤ 4611686018427387904) : Ret Tryz.prog 40 [.slice A n c, .int .i64 ((p : Nat) : Int)] w0 [] (fun v s => v = .int .i64 ((sizeN xs p : Nat) : Int) ∧ s = []) := by
 refine fn_start Tryz.func40 Y Tryz.ntmps40 Y [(0, .slice A n c), (1, .int .i64 ((p : Nat) : Int))] ⟨Y, Y, trivial⟩ ?_
 intro Q a hP J hR hN
 have G := St.start w0
 have hb1 := cAt_lt hB p; have hb2 := cAt_lt hB (p + 1)
 refine wp_seq_k fun K1 hK1=> wp_region_lit <| av J Y Y fun a J=> s0 <| then_n (hK1 _ _ <| wp_seq_k fun K2 hK2=> wp_seq_k fun K3 hK3=> ?_)
 have hK3' : ∀ a w, (Fr 118 [(0, .slice A n c), (1, .int .i64 ((p : Nat) : Int)), (22, .bool (decide (n ≤ p ∨ 28 ≤ cAt xs p)))] a ∧ St w0 [] [] w) → K3 a w := by
  rintro a w ⟨J, G⟩
  refine hK3 _ _ ?_
  refine cD J Y (fun c1=> ?_) (fun c1=> ?_)
  ·refine wp_seq_k fun K4 hK4=> wp_region_lit <| av J Y Y fun a J=> s0 <| then_n (hK4 _ _ <| wp_ret (then_r (hR _ _ _ _ _ J (run_results Tryz.results40 (.t J Y (.nil))) ?_)))
   exact ⟨_, [], Y, ⟨size_i (by unfold sizeN; (repeat' split) <;> omega), Y⟩, G.none⟩
  refine wp_skip <| then_n (hK2 _ _ <| wp_seq_k fun K5 hK5=> wp_region_lit <| mv J Y Y fun a J=> mv J Y Y fun a J=> sw J Y Y Y (R.indexO Tryz.underlying22 sz5 (J.ev Y) (Rd.ne hA (by rw [length_byts]; omega)) (J.ev Y) (by omega) (by omega)) fun a J=> sw J Y Y Y (R.loadO one5 (J.ev Y) (hA.old G) (cb_at (i := p) (by omega) (by omega))) fun a J=> sw J Y Y Y (R.convI Tryz.underlying5 Tryz.underlying3 (J.ev Y) (by omega)) fun a J=> av J Y Y fun a J=> s0 <| then_n (hK5 _ _ <| wp_seq_k fun K6 hK6=> wp_region_lit <| av J Y Y fun a J=> s0 <| then_n (hK6 _ _ <| wp_seq_k fun K7 hK7=> ?_)))
  have hK7' : ∀ a w, (∃ (m : Nat), Fr 118 [(0, .slice A n c), (1, .int .i64 ((p : Nat) : Int)), (5, .int .i64 ((cAt xs p : Nat) : Int)), (6, .int .i64 ((m : Nat) : Int))] a ∧ St w0 [] [] w ∧ ((cAt xs p = 2 ∧ ¬ (n ≤ p + 1 ∨ cAt xs (p + 1) < 1 ∨ 32 < cAt xs (p + 1)) ∧ m = 2 + cAt xs (p + 1)) ∨ (cAt xs p ≠ 2 ∧ m = 1))) → K7 a w := by
   rintro a w ⟨m, J, G, hf⟩
   refine hK7 _ _ ?_
   refine wp_seq_k fun K8 hK8=> ?_
   have hK8' : ∀ a w, (∃ (m : Nat), Fr 118 [(0, .slice A n c), (1, .int .i64 ((p : Nat) : Int)), (5, .int .i64 ((cAt xs p : Nat) : Int)), (6, .int .i64 ((m : Nat) : Int))] a ∧ St w0 [] [] w ∧ ((cAt xs p = 2 ∧ ¬ (n ≤ p + 1 ∨ cAt xs (p + 1) < 1 ∨ 32 < cAt xs (p + 1)) ∧ m = 2 + cAt xs (p + 1)) ∨ ((cAt xs p = 4 ∨ cAt xs p = 5 ∨ cAt xs p = 16) ∧ ¬ (p + 1 < n ∧ ((cAt xs p = 4 ∧ 15 < cAt xs (p + 1)) ∨ (cAt xs p = 5 ∧ (cAt xs (p + 1) < 1 ∨ 15 < cAt xs (p + 1))))) ∧ m = 2) ∨ (cAt xs p ≠ 2 ∧ cAt xs p ≠ 4 ∧ cAt xs p ≠ 5 ∧ cAt xs p ≠ 16 ∧ m = 1))) → K8 a w := by
    rintro a w ⟨m, J, G, hf⟩
    refine hK8 _ _ ?_
    refine wp_seq_k fun K9 hK9=> wp_seq_k fun K10 hK10=> ?_
    have hK10' : ∀ a w, (∃ (m : Nat), Fr 118 [(0, .slice A n c), (1, .int .i64 ((p : Nat) : Int)), (5, .int .i64 ((cAt xs p : Nat) : Int)), (6, .int .i64 ((m : Nat) : Int)), (110, .bool (decide (cAt xs p = 14 ∨ cAt xs p = 15)))] a ∧ St w0 [] [] w ∧ ((cAt xs p = 2 ∧ ¬ (n ≤ p + 1 ∨ cAt xs (p + 1) < 1 ∨ 32 < cAt xs (p + 1)) ∧ m = 2 + cAt xs (p + 1)) ∨ ((cAt xs p = 4 ∨ cAt xs p = 5 ∨ cAt xs p = 16) ∧ ¬ (p + 1 < n ∧ ((cAt xs p = 4 ∧ 15 < cAt xs (p + 1)) ∨ (cAt xs p = 5 ∧ (cAt xs (p + 1) < 1 ∨ 15 < cAt xs (p + 1))))) ∧ m = 2) ∨ (cAt xs p ≠ 2 ∧ cAt xs p ≠ 4 ∧ cAt xs p ≠ 5 ∧ cAt xs p ≠ 16 ∧ m = 1))) → K10 a w := by
     rintro a w ⟨m, J, G, hf⟩
     refine hK10 _ _ ?_
     refine cD J Y (fun c2=> ?_) (fun c2=> ?_)
     ·refine wp_region_lit <| av J Y Y fun a J=> s0 <| then_n (hK9 _ _ <| wp_seq_k fun K11 hK11=> wp_seq_k fun K12 hK12=> wp_region_lit <| mv J Y Y fun a J=> mv J Y Y fun a J=> aI J Y Y Y (by omega) fun a J=> mv J Y Y fun a J=> sw J Y Y Y (R.len Tryz.underlying22 (J.ev Y)) fun a J=> sw J Y Y Y (R.gtr (J.ev Y) (J.ev Y)) fun a J=> s0 <| then_n (hK12 _ _ <| cD J Y (fun c3=> ?_) (fun c3=> ?_)))
      ·refine wp_seq_k fun K13 hK13=> wp_region_lit <| av J Y Y fun a J=> s0 <| then_n (hK13 _ _ <| wp_ret (then_r (hR _ _ _ _ _ J (run_results Tryz.results40 (.t J Y (.nil))) ?_)))
       exact ⟨_, [], Y, ⟨size_i (by unfold sizeN; (repeat' split) <;> omega), Y⟩, G.none⟩
      refine wp_skip <| then_n (hK11 _ _ <| wp_seq_k fun K14 hK14=> wp_region_lit <| mv J Y Y fun a J=> av J Y Y fun a J=> s0 <| then_n (hK14 _ _ <| wp_ret (hR _ _ _ _ _ J (run_results Tryz.results40 (.t J Y (.nil))) ?_)))
      exact ⟨_, [], Y, ⟨size_i (by unfold sizeN; (repeat' split) <;> omega), Y⟩, G.none⟩
     refine wp_skip <| then_n (hK9 _ _ <| wp_seq_k fun K15 hK15=> wp_seq_k fun K16 hK16=> wp_region_lit <| mv J Y Y fun a J=> mv J Y Y fun a J=> aI J Y Y Y (by omega) fun a J=> mv J Y Y fun a J=> sw J Y Y Y (R.len Tryz.underlying22 (J.ev Y)) fun a J=> sw J Y Y Y (R.gtr (J.ev Y) (J.ev Y)) fun a J=> s0 <| then_n (hK16 _ _ <| cD J Y (fun c4=> ?_) (fun c4=> ?_)))
     ·refine wp_seq_k fun K17 hK17=> wp_region_lit <| av J Y Y fun a J=> s0 <| then_n (hK17 _ _ <| wp_ret (then_r (hR _ _ _ _ _ J (run_results Tryz.results40 (.t J Y (.nil))) ?_)))
      exact ⟨_, [], Y, ⟨size_i (by unfold sizeN; (repeat' split) <;> omega), Y⟩, G.none⟩
     refine wp_skip <| then_n (hK15 _ _ <| wp_seq_k fun K18 hK18=> wp_region_lit <| mv J Y Y fun a J=> av J Y Y fun a J=> s0 <| then_n (hK18 _ _ <| wp_ret (hR _ _ _ _ _ J (run_results Tryz.results40 (.t J Y (.nil))) ?_)))
     exact ⟨_, [], Y, ⟨size_i (by unfold sizeN; (repeat' split) <;> omega), Y⟩, G.none⟩
    refine wp_region_lit <| mv J Y Y fun a J=> eL J Y Y Y fun a J=> mv J Y Y fun a J=> J.splitD (t := 107) Y (fun h107 J=> ?_) (fun h107 J=> ?_)
    ·refine kz J Y Y Y Y Y Y fun a J=> kz J Y Y Y Y Y Y fun a J=> pT J Y Y Y fun a J=> s0 ?_
     exact then_n (hK10' _ _ ⟨m, J.sub ⟨Y, Y, Y, Y, (congrArg (fun z => some (Value.bool z)) (by first | exact (decide_eq_true (by omega)).symm | exact (decide_eq_false (by omega)).symm | exact decide_eq_decide.2 (by omega))), trivial⟩, G.sel [] Y Y, hf⟩)
    refine my J Y Y Y Y fun a J=> sv' J (wy J Y Y Y) Y Y (R.eql (J.ev Y) (J.ev Y)) fun a J=> pF J Y Y Y fun a J=> s0 ?_
    exact then_n (hK10' _ _ ⟨m, J.sub ⟨Y, Y, Y, Y, (congrArg (fun z => some (Value.bool z)) (by first | exact (decide_eq_true (by omega)).symm | exact (decide_eq_false (by omega)).symm | exact decide_eq_decide.2 (by omega))), trivial⟩, G.sel [] Y Y, hf⟩)
   refine wp_seq_k fun K19 hK19=> ?_
   have hK19' : ∀ a w, (∃ (m : Nat), Fr 118 [(0, .slice A n c), (1, .int .i64 ((p : Nat) : Int)), (5, .int .i64 ((cAt xs p : Nat) : Int)), (6, .int .i64 ((m : Nat) : Int)), (67, .bool (decide (cAt xs p = 4 ∨ cAt xs p = 5 ∨ cAt xs p = 16)))] a ∧ St w0 [] [] w ∧ ((cAt xs p = 2 ∧ ¬ (n ≤ p + 1 ∨ cAt xs (p + 1) < 1 ∨ 32 < cAt xs (p + 1)) ∧ m = 2 + cAt xs (p + 1)) ∨ (cAt xs p ≠ 2 ∧ m = 1))) → K19 a w := by
    rintro a w ⟨m, J, G, hf⟩
    refine hK19 _ _ ?_
    refine cD J Y (fun c5=> ?_) (fun c5=> ?_)
    ·refine wp_seq_k fun K20 hK20=> wp_region_lit <| av J Y Y fun a J=> s0 <| then_n (hK20 _ _ <| wp_seq_k fun K21 hK21=> ?_)
     have hK21' : ∀ a w, (Fr 118 [(0, .slice A n c), (1, .int .i64 ((p : Nat) : Int)), (5, .int .i64 ((cAt xs p : Nat) : Int)), (6, .int .i64 ((2 : Nat) : Int)), (104, .bool (decide (p + 1 < n ∧ ((cAt xs p = 4 ∧ 15 < cAt xs (p + 1)) ∨ (cAt xs p = 5 ∧ (cAt xs (p + 1) < 1 ∨ 15 < cAt xs (p + 1)))))))] a ∧ St w0 [] [] w) → K21 a w := by
      rintro a w ⟨J, G⟩
      refine hK21 _ _ ?_
      refine cD J Y (fun c6=> ?_) (fun c6=> ?_)
      ·refine wp_seq_k fun K22 hK22=> wp_region_lit <| av J Y Y fun a J=> s0 <| then_n (hK22 _ _ <| wp_ret (then_r (hR _ _ _ _ _ J (run_results Tryz.results40 (.t J Y (.nil))) ?_)))
       exact ⟨_, [], Y, ⟨size_i (by unfold sizeN; (repeat' split) <;> omega), Y⟩, G.none⟩
      refine wp_skip ?_
      exact then_n (hK8' _ _ ⟨2, J.sub ⟨Y, Y, Y, (congrArg (fun z => some (Value.int .i64 z)) (by omega)), trivial⟩, G.sel [] Y Y, by omega⟩)
     refine wp_region_lit <| mv J Y Y fun a J=> aI J Y Y Y (by omega) fun a J=> mv J Y Y fun a J=> sw J Y Y Y (R.len Tryz.underlying22 (J.ev Y)) fun a J=> lS J Y Y Y fun a J=> mv J Y Y fun a J=> J.splitD (t := 73) Y (fun h73 J=> ?_) (fun h73 J=> ?_)
     ·refine my J Y Y Y Y fun a J=> sv' J (wy J Y Y Y) Y Y (R.eql (J.ev Y) (J.ev Y)) fun a J=> my J Y Y Y Y fun a J=> J.splitD (t := 76) Y (fun h76 J=> ?_) (fun h76 J=> ?_)
      ·refine my J Y Y Y Y fun a J=> my J Y Y Y Y fun a J=> sv' J (wy J Y Y Y) Y Y (R.addI (J.ev Y) (J.ev Y) (by omega)) fun a J=> sv' J (wy J Y Y Y) Y Y (R.indexO Tryz.underlying22 sz5 (J.ev Y) (Rd.ne hA (by rw [length_byts]; omega)) (J.ev Y) (by omega) (by omega)) fun a J=> sv' J (wy J Y Y Y) Y Y (R.loadO one5 (J.ev Y) (hA.old G) (cb_at (i := p + 1) (by omega) (by omega))) fun a J=> sv' J (wy J Y Y Y) Y Y (R.gtr (J.ev Y) (J.ev Y)) fun a J=> sv' J (wy J Y Y Y) Y Y (R.pickT (J.ev Y) (J.ev Y)) fun a J=> my J Y Y Y Y fun a J=> J.splitD (t := 84) Y (fun h84 J=> ?_) (fun h84 J=> ?_)
       ·refine kz J Y Y Y Y Y Y fun a J=> kz J Y Y Y Y Y Y fun a J=> kz J Y Y Y Y Y Y fun a J=> ku J Y Y Y Y Y fun a J=> ku J Y Y Y Y Y fun a J=> ku J Y Y Y Y Y fun a J=> ku J Y Y Y Y Y fun a J=> ku J Y Y Y Y Y fun a J=> ku J Y Y Y Y Y fun a J=> ku J Y Y Y Y Y fun a J=> ku J Y Y Y Y Y fun a J=> ku J Y Y Y Y Y fun a J=> ku J Y Y Y Y Y fun a J=> ku J Y Y Y Y Y fun a J=> ku J Y Y Y Y Y fun a J=> ku J Y Y Y Y Y fun a J=> ku J Y Y Y Y Y fun a J=> kz J Y Y Y Y Y Y fun a J=> sv' J (wy J Y Y Y) Y Y (R.pickT (J.ev Y) (J.ev Y)) fun a J=> pT J Y Y Y fun a J=> s0 ?_
        exact then_n (hK21' _ _ ⟨J.sub ⟨Y, Y, Y, Y, (congrArg (fun z => some (Value.bool z)) (by first | exact (decide_eq_true (by omega)).symm | exact (decide_eq_false (by omega)).symm | exact decide_eq_decide.2 (by omega))), trivial⟩, G.sel [] Y Y⟩)
       refine my J Y Y Y Y fun a J=> sv' J (wy J Y Y Y) Y Y (R.eql (J.ev Y) (J.ev Y)) fun a J=> my J Y Y Y Y fun a J=> J.splitD (t := 87) Y (fun h87 J=> ?_) (fun h87 J=> ?_)
       ·refine my J Y Y Y Y fun a J=> my J Y Y Y Y fun a J=> sv' J (wy J Y Y Y) Y Y (R.addI (J.ev Y) (J.ev Y) (by omega)) fun a J=> sv' J (wy J Y Y Y) Y Y (R.indexO Tryz.underlying22 sz5 (J.ev Y) (Rd.ne hA (by rw [length_byts]; omega)) (J.ev Y) (by omega) (by omega)) fun a J=> sv' J (wy J Y Y Y) Y Y (R.loadO one5 (J.ev Y) (hA.old G) (cb_at (i := p + 1) (by omega) (by omega))) fun a J=> sv' J (wy J Y Y Y) Y Y (R.lss (J.ev Y) (J.ev Y)) fun a J=> my J Y Y Y Y fun a J=> J.splitD (t := 94) Y (fun h94 J=> ?_) (fun h94 J=> ?_)
        ·refine kz J Y Y Y Y Y Y fun a J=> kz J Y Y Y Y Y Y fun a J=> kz J Y Y Y Y Y Y fun a J=> kz J Y Y Y Y Y Y fun a J=> kz J Y Y Y Y Y Y fun a J=> kz J Y Y Y Y Y Y fun a J=> sv' J (wy J Y Y Y) Y Y (R.pickT (J.ev Y) (J.ev Y)) fun a J=> sv' J (wy J Y Y Y) Y Y (R.pickT (J.ev Y) (J.ev Y)) fun a J=> sv' J (wy J Y Y Y) Y Y (R.pickF (J.ev Y) (J.ev Y)) fun a J=> pT J Y Y Y fun a J=> s0 ?_
         exact then_n (hK21' _ _ ⟨J.sub ⟨Y, Y, Y, Y, (congrArg (fun z => some (Value.bool z)) (by first | exact (decide_eq_true (by omega)).symm | exact (decide_eq_false (by omega)).symm | exact decide_eq_decide.2 (by omega))), trivial⟩, G.sel [] Y Y⟩)
        refine my J Y Y Y Y fun a J=> my J Y Y Y Y fun a J=> sv' J (wy J Y Y Y) Y Y (R.addI (J.ev Y) (J.ev Y) (by omega)) fun a J=> sv' J (wy J Y Y Y) Y Y (R.indexO Tryz.underlying22 sz5 (J.ev Y) (Rd.ne hA (by rw [length_byts]; omega)) (J.ev Y) (by omega) (by omega)) fun a J=> sv' J (wy J Y Y Y) Y Y (R.loadO one5 (J.ev Y) (hA.old G) (cb_at (i := p + 1) (by omega) (by omega))) fun a J=> sv' J (wy J Y Y Y) Y Y (R.gtr (J.ev Y) (J.ev Y)) fun a J=> sv' J (wy J Y Y Y) Y Y (R.pickF (J.ev Y) (J.ev Y)) fun a J=> sv' J (wy J Y Y Y) Y Y (R.pickT (J.ev Y) (J.ev Y)) fun a J=> sv' J (wy J Y Y Y) Y Y (R.pickF (J.ev Y) (J.ev Y)) fun a J=> pT J Y Y Y fun a J=> s0 ?_
        exact then_n (hK21' _ _ ⟨J.sub ⟨Y, Y, Y, Y, (congrArg (fun z => some (Value.bool z)) (by first | exact (decide_eq_true (by omega)).symm | exact (decide_eq_false (by omega)).symm | exact decide_eq_decide.2 (by omega))), trivial⟩, G.sel [] Y Y⟩)
       refine kz J Y Y Y Y Y Y fun a J=> kz J Y Y Y Y Y Y fun a J=> kz J Y Y Y Y Y Y fun a J=> kz J Y Y Y Y Y Y fun a J=> kz J Y Y Y Y Y Y fun a J=> kz J Y Y Y Y Y Y fun a J=> kz J Y Y Y Y Y Y fun a J=> ku J Y Y Y Y Y fun a J=> ku J Y Y Y Y Y fun a J=> ku J Y Y Y Y Y fun a J=> ku J Y Y Y Y Y fun a J=> ku J Y Y Y Y Y fun a J=> ku J Y Y Y Y Y fun a J=> kz J Y Y Y Y Y Y fun a J=> sv' J (wy J Y Y Y) Y Y (R.pickF (J.ev Y) (J.ev Y)) fun a J=> sv' J (wy J Y Y Y) Y Y (R.pickF (J.ev Y) (J.ev Y)) fun a J=> pT J Y Y Y fun a J=> s0 ?_
       exact then_n (hK21' _ _ ⟨J.sub ⟨Y, Y, Y, Y, (congrArg (fun z => some (Value.bool z)) (by first | exact (decide_eq_true (by omega)).symm | exact (decide_eq_false (by omega)).symm | exact decide_eq_decide.2 (by omega))), trivial⟩, G.sel [] Y Y⟩)
      refine kz J Y Y Y Y Y Y fun a J=> kz J Y Y Y Y Y Y fun a J=> kz J Y Y Y Y Y Y fun a J=> kz J Y Y Y Y Y Y fun a J=> kz J Y Y Y Y Y Y fun a J=> kz J Y Y Y Y Y Y fun a J=> sv' J (wy J Y Y Y) Y Y (R.pickF (J.ev Y) (J.ev Y)) fun a J=> my J Y Y Y Y fun a J=> my J Y Y Y Y fun a J=> sv' J (wy J Y Y Y) Y Y (R.eql (J.ev Y) (J.ev Y)) fun a J=> my J Y Y Y Y fun a J=> J.splitD (t := 87) Y (fun h87 J=> ?_) (fun h87 J=> ?_)
      ·refine my J Y Y Y Y fun a J=> my J Y Y Y Y fun a J=> sv' J (wy J Y Y Y) Y Y (R.addI (J.ev Y) (J.ev Y) (by omega)) fun a J=> sv' J (wy J Y Y Y) Y Y (R.indexO Tryz.underlying22 sz5 (J.ev Y) (Rd.ne hA (by rw [length_byts]; omega)) (J.ev Y) (by omega) (by omega)) fun a J=> sv' J (wy J Y Y Y) Y Y (R.loadO one5 (J.ev Y) (hA.old G) (cb_at (i := p + 1) (by omega) (by omega))) fun a J=> sv' J (wy J Y Y Y) Y Y (R.lss (J.ev Y) (J.ev Y)) fun a J=> my J Y Y Y Y fun a J=> J.splitD (t := 94) Y (fun h94 J=> ?_) (fun h94 J=> ?_)
       ·refine kz J Y Y Y Y Y Y fun a J=> kz J Y Y Y Y Y Y fun a J=> kz J Y Y Y Y Y Y fun a J=> kz J Y Y Y Y Y Y fun a J=> kz J Y Y Y Y Y Y fun a J=> kz J Y Y Y Y Y Y fun a J=> sv' J (wy J Y Y Y) Y Y (R.pickT (J.ev Y) (J.ev Y)) fun a J=> sv' J (wy J Y Y Y) Y Y (R.pickT (J.ev Y) (J.ev Y)) fun a J=> sv' J (wy J Y Y Y) Y Y (R.pickF (J.ev Y) (J.ev Y)) fun a J=> pT J Y Y Y fun a J=> s0 ?_
        exact then_n (hK21' _ _ ⟨J.sub ⟨Y, Y, Y, Y, (congrArg (fun z => some (Value.bool z)) (by first | exact (decide_eq_true (by omega)).symm | exact (decide_eq_false (by omega)).symm | exact decide_eq_decide.2 (by omega))), trivial⟩, G.sel [] Y Y⟩)
       refine my J Y Y Y Y fun a J=> my J Y Y Y Y fun a J=> sv' J (wy J Y Y Y) Y Y (R.addI (J.ev Y) (J.ev Y) (by omega)) fun a J=> sv' J (wy J Y Y Y) Y Y (R.indexO Tryz.underlying22 sz5 (J.ev Y) (Rd.ne hA (by rw [length_byts]; omega)) (J.ev Y) (by omega) (by omega)) fun a J=> sv' J (wy J Y Y Y) Y Y (R.loadO one5 (J.ev Y) (hA.old G) (cb_at (i := p + 1) (by omega) (by omega))) fun a J=> sv' J (wy J Y Y Y) Y Y (R.gtr (J.ev Y) (J.ev Y)) fun a J=> sv' J (wy J Y Y Y) Y Y (R.pickF (J.ev Y) (J.ev Y)) fun a J=> sv' J (wy J Y Y Y) Y Y (R.pickT (J.ev Y) (J.ev Y)) fun a J=> sv' J (wy J Y Y Y) Y Y (R.pickF (J.ev Y) (J.ev Y)) fun a J=> pT J Y Y Y fun a J=> s0 ?_
       exact then_n (hK21' _ _ ⟨J.sub ⟨Y, Y, Y, Y, (congrArg (fun z => some (Value.bool z)) (by first | exact (decide_eq_true (by omega)).symm | exact (decide_eq_false (by omega)).symm | exact decide_eq_decide.2 (by omega))), trivial⟩, G.sel [] Y Y⟩)
      refine kz J Y Y Y Y Y Y fun a J=> kz J Y Y Y Y Y Y fun a J=> kz J Y Y Y Y Y Y fun a J=> kz J Y Y Y Y Y Y fun a J=> kz J Y Y Y Y Y Y fun a J=> kz J Y Y Y Y Y Y fun a J=> kz J Y Y Y Y Y Y fun a J=> ku J Y Y Y Y Y fun a J=> ku J Y Y Y Y Y fun a J=> ku J Y Y Y Y Y fun a J=> ku J Y Y Y Y Y fun a J=> ku J Y Y Y Y Y fun a J=> ku J Y Y Y Y Y fun a J=> kz J Y Y Y Y Y Y fun a J=> sv' J (wy J Y Y Y) Y Y (R.pickF (J.ev Y) (J.ev Y)) fun a J=> sv' J (wy J Y Y Y) Y Y (R.pickF (J.ev Y) (J.ev Y)) fun a J=> pT J Y Y Y fun a J=> s0 ?_
      exact then_n (hK21' _ _ ⟨J.sub ⟨Y, Y, Y, Y, (congrArg (fun z => some (Value.bool z)) (by first | exact (decide_eq_true (by omega)).symm | exact (decide_eq_false (by omega)).symm | exact decide_eq_decide.2 (by omega))), trivial⟩, G.sel [] Y Y⟩)
     refine kz J Y Y Y Y Y Y fun a J=> kz J Y Y Y Y Y Y fun a J=> kz J Y Y Y Y Y Y fun a J=> ku J Y Y Y Y Y fun a J=> ku J Y Y Y Y Y fun a J=> ku J Y Y Y Y Y fun a J=> ku J Y Y Y Y Y fun a J=> ku J Y Y Y Y Y fun a J=> ku J Y Y Y Y Y fun a J=> kz J Y Y Y Y Y Y fun a J=> kz J Y Y Y Y Y Y fun a J=> ku J Y Y Y Y Y fun a J=> ku J Y Y Y Y Y fun a J=> ku J Y Y Y Y Y fun a J=> ku J Y Y Y Y Y fun a J=> ku J Y Y Y Y Y fun a J=> ku J Y Y Y Y Y fun a J=> ku J Y Y Y Y Y fun a J=> ku J Y Y Y Y Y fun a J=> ku J Y Y Y Y Y fun a J=> ku J Y Y Y Y Y fun a J=> ku J Y Y Y Y Y fun a J=> ku J Y Y Y Y Y fun a J=> ku J Y Y Y Y Y fun a J=> ?_
     refine ku J Y Y Y Y Y fun a J=> ku J Y Y Y Y Y fun a J=> ku J Y Y Y Y Y fun a J=> ku J Y Y Y Y Y fun a J=> ku J Y Y Y Y Y fun a J=> kz J Y Y Y Y Y Y fun a J=> pF J Y Y Y fun a J=> s0 ?_
     exact then_n (hK21' _ _ ⟨J.sub ⟨Y, Y, Y, Y, (congrArg (fun z => some (Value.bool z)) (by first | exact (decide_eq_true (by omega)).symm | exact (decide_eq_false (by omega)).symm | exact decide_eq_decide.2 (by omega))), trivial⟩, G.sel [] Y Y⟩)
    refine wp_skip ?_
    exact then_n (hK8' _ _ ⟨m, J.sub ⟨Y, Y, Y, (congrArg (fun z => some (Value.int .i64 z)) (by omega)), trivial⟩, G.sel [] Y Y, by omega⟩)
   refine wp_region_lit <| mv J Y Y fun a J=> eL J Y Y Y fun a J=> mv J Y Y fun a J=> J.splitD (t := 60) Y (fun h60 J=> ?_) (fun h60 J=> ?_)
   ·refine kz J Y Y Y Y Y Y fun a J=> kz J Y Y Y Y Y Y fun a J=> pT J Y Y Y fun a J=> mv J Y Y fun a J=> kz J Y Y Y Y Y Y fun a J=> kz J Y Y Y Y Y Y fun a J=> pT J Y Y Y fun a J=> s0 ?_
    exact then_n (hK19' _ _ ⟨m, J.sub ⟨Y, Y, Y, Y, (congrArg (fun z => some (Value.bool z)) (by first | exact (decide_eq_true (by omega)).symm | exact (decide_eq_false (by omega)).symm | exact decide_eq_decide.2 (by omega))), trivial⟩, G.sel [] Y Y, hf⟩)
   refine my J Y Y Y Y fun a J=> sv' J (wy J Y Y Y) Y Y (R.eql (J.ev Y) (J.ev Y)) fun a J=> pF J Y Y Y fun a J=> mv J Y Y fun a J=> J.splitD (t := 64) Y (fun h64 J=> ?_) (fun h64 J=> ?_)
   ·refine kz J Y Y Y Y Y Y fun a J=> kz J Y Y Y Y Y Y fun a J=> pT J Y Y Y fun a J=> s0 ?_
    exact then_n (hK19' _ _ ⟨m, J.sub ⟨Y, Y, Y, Y, (congrArg (fun z => some (Value.bool z)) (by first | exact (decide_eq_true (by omega)).symm | exact (decide_eq_false (by omega)).symm | exact decide_eq_decide.2 (by omega))), trivial⟩, G.sel [] Y Y, hf⟩)
   refine my J Y Y Y Y fun a J=> sv' J (wy J Y Y Y) Y Y (R.eql (J.ev Y) (J.ev Y)) fun a J=> pF J Y Y Y fun a J=> s0 ?_
   exact then_n (hK19' _ _ ⟨m, J.sub ⟨Y, Y, Y, Y, (congrArg (fun z => some (Value.bool z)) (by first | exact (decide_eq_true (by omega)).symm | exact (decide_eq_false (by omega)).symm | exact decide_eq_decide.2 (by omega))), trivial⟩, G.sel [] Y Y, hf⟩)
  refine wp_seq_k fun K23 hK23=> wp_region_lit <| mv J Y Y fun a J=> eL J Y Y Y fun a J=> s0 <| then_n (hK23 _ _ <| cD J Y (fun c7=> ?_) (fun c7=> ?_))
  ·refine wp_seq_k fun K24 hK24=> wp_seq_k fun K25 hK25=> ?_
   have hK25' : ∀ a w, (Fr 118 [(0, .slice A n c), (1, .int .i64 ((p : Nat) : Int)), (5, .int .i64 ((cAt xs p : Nat) : Int)), (50, .bool (decide (n ≤ p + 1 ∨ cAt xs (p + 1) < 1 ∨ 32 < cAt xs (p + 1))))] a ∧ St w0 [] [] w) → K25 a w := by
    rintro a w ⟨J, G⟩
    refine hK25 _ _ ?_
    refine cD J Y (fun c8=> ?_) (fun c8=> ?_)
    ·refine wp_seq_k fun K26 hK26=> wp_region_lit <| av J Y Y fun a J=> s0 <| then_n (hK26 _ _ <| wp_ret (then_r (then_r (hR _ _ _ _ _ J (run_results Tryz.results40 (.t J Y (.nil))) ?_))))
     exact ⟨_, [], Y, ⟨size_i (by unfold sizeN; (repeat' split) <;> omega), Y⟩, G.none⟩
    refine wp_skip <| then_n (hK24 _ _ <| wp_region_lit <| mv J Y Y fun a J=> mv J Y Y fun a J=> aI J Y Y Y (by omega) fun a J=> sw J Y Y Y (R.indexO Tryz.underlying22 sz5 (J.ev Y) (Rd.ne hA (by rw [length_byts]; omega)) (J.ev Y) (by omega) (by omega)) fun a J=> sw J Y Y Y (R.loadO one5 (J.ev Y) (hA.old G) (cb_at (i := p + 1) (by omega) (by omega))) fun a J=> sw J Y Y Y (R.convI Tryz.underlying5 Tryz.underlying3 (J.ev Y) (by omega)) fun a J=> aI J Y Y Y (by omega) fun a J=> av J Y Y fun a J=> s0 ?_)
    exact then_n (hK7' _ _ ⟨2 + cAt xs (p + 1), J.sub ⟨Y, Y, Y, (congrArg (fun z => some (Value.int .i64 z)) (by omega)), trivial⟩, G.sel [] Y Y, by omega⟩)
   refine wp_region_lit <| mv J Y Y fun a J=> aI J Y Y Y (by omega) fun a J=> mv J Y Y fun a J=> sw J Y Y Y (R.len Tryz.underlying22 (J.ev Y)) fun a J=> sw J Y Y Y (R.geq (J.ev Y) (J.ev Y)) fun a J=> mv J Y Y fun a J=> J.splitD (t := 35) Y (fun h35 J=> ?_) (fun h35 J=> ?_)
   ·refine kz J Y Y Y Y Y Y fun a J=> kz J Y Y Y Y Y Y fun a J=> kz J Y Y Y Y Y Y fun a J=> kz J Y Y Y Y Y Y fun a J=> kz J Y Y Y Y Y Y fun a J=> kz J Y Y Y Y Y Y fun a J=> pT J Y Y Y fun a J=> mv J Y Y fun a J=> kz J Y Y Y Y Y Y fun a J=> kz J Y Y Y Y Y Y fun a J=> kz J Y Y Y Y Y Y fun a J=> kz J Y Y Y Y Y Y fun a J=> kz J Y Y Y Y Y Y fun a J=> kz J Y Y Y Y Y Y fun a J=> pT J Y Y Y fun a J=> s0 ?_
    exact then_n (hK25' _ _ ⟨J.sub ⟨Y, Y, Y, (congrArg (fun z => some (Value.bool z)) (by first | exact (decide_eq_true (by omega)).symm | exact (decide_eq_false (by omega)).symm | exact decide_eq_decide.2 (by omega))), trivial⟩, G.sel [] Y Y⟩)
   refine my J Y Y Y Y fun a J=> my J Y Y Y Y fun a J=> sv' J (wy J Y Y Y) Y Y (R.addI (J.ev Y) (J.ev Y) (by omega)) fun a J=> sv' J (wy J Y Y Y) Y Y (R.indexO Tryz.underlying22 sz5 (J.ev Y) (Rd.ne hA (by rw [length_byts]; omega)) (J.ev Y) (by omega) (by omega)) fun a J=> sv' J (wy J Y Y Y) Y Y (R.loadO one5 (J.ev Y) (hA.old G) (cb_at (i := p + 1) (by omega) (by omega))) fun a J=> sv' J (wy J Y Y Y) Y Y (R.lss (J.ev Y) (J.ev Y)) fun a J=> pF J Y Y Y fun a J=> mv J Y Y fun a J=> J.splitD (t := 43) Y (fun h43 J=> ?_) (fun h43 J=> ?_)
   ·refine kz J Y Y Y Y Y Y fun a J=> kz J Y Y Y Y Y Y fun a J=> kz J Y Y Y Y Y Y fun a J=> kz J Y Y Y Y Y Y fun a J=> kz J Y Y Y Y Y Y fun a J=> kz J Y Y Y Y Y Y fun a J=> pT J Y Y Y fun a J=> s0 ?_
    exact then_n (hK25' _ _ ⟨J.sub ⟨Y, Y, Y, (congrArg (fun z => some (Value.bool z)) (by first | exact (decide_eq_true (by omega)).symm | exact (decide_eq_false (by omega)).symm | exact decide_eq_decide.2 (by omega))), trivial⟩, G.sel [] Y Y⟩)
   refine my J Y Y Y Y fun a J=> my J Y Y Y Y fun a J=> sv' J (wy J Y Y Y) Y Y (R.addI (J.ev Y) (J.ev Y) (by omega)) fun a J=> sv' J (wy J Y Y Y) Y Y (R.indexO Tryz.underlying22 sz5 (J.ev Y) (Rd.ne hA (by rw [length_byts]; omega)) (J.ev Y) (by omega) (by omega)) fun a J=> sv' J (wy J Y Y Y) Y Y (R.loadO one5 (J.ev Y) (hA.old G) (cb_at (i := p + 1) (by omega) (by omega))) fun a J=> sv' J (wy J Y Y Y) Y Y (R.gtr (J.ev Y) (J.ev Y)) fun a J=> pF J Y Y Y fun a J=> s0 ?_
   exact then_n (hK25' _ _ ⟨J.sub ⟨Y, Y, Y, (congrArg (fun z => some (Value.bool z)) (by first | exact (decide_eq_true (by omega)).symm | exact (decide_eq_false (by omega)).symm | exact decide_eq_decide.2 (by omega))), trivial⟩, G.sel [] Y Y⟩)
  refine wp_skip ?_
  exact then_n (hK7' _ _ ⟨1, J.sub ⟨Y, Y, Y, (congrArg (fun z => some (Value.int .i64 z)) (by omega)), trivial⟩, G.sel [] Y Y, by omega⟩)
 refine wp_region_lit <| mv J Y Y fun a J=> lS J Y Y Y fun a J=> mv J Y Y fun a J=> J.splitD (t := 9) Y (fun h9 J=> ?_) (fun h9 J=> ?_)
 ·refine kz J Y Y Y Y Y Y fun a J=> kz J Y Y Y Y Y Y fun a J=> kz J Y Y Y Y Y Y fun a J=> kz J Y Y Y Y Y Y fun a J=> pT J Y Y Y fun a J=> mv J Y Y fun a J=> kz J Y Y Y Y Y Y fun a J=> kz J Y Y Y Y Y Y fun a J=> kz J Y Y Y Y Y Y fun a J=> kz J Y Y Y Y Y Y fun a J=> kz J Y Y Y Y Y Y fun a J=> kz J Y Y Y Y Y Y fun a J=> pT J Y Y Y fun a J=> s0 ?_
  exact then_n (hK3' _ _ ⟨J.sub ⟨Y, Y, (congrArg (fun z => some (Value.bool z)) (by first | exact (decide_eq_true (by omega)).symm | exact (decide_eq_false (by omega)).symm | exact decide_eq_decide.2 (by omega))), trivial⟩, G.sel [] Y Y⟩)
 refine my J Y Y Y Y fun a J=> my J Y Y Y Y fun a J=> sv' J (wy J Y Y Y) Y Y (R.len Tryz.underlying22 (J.ev Y)) fun a J=> sv' J (wy J Y Y Y) Y Y (R.geq (J.ev Y) (J.ev Y)) fun a J=> pF J Y Y Y fun a J=> mv J Y Y fun a J=> J.splitD (t := 15) Y (fun h15 J=> ?_) (fun h15 J=> ?_)
 ·refine kz J Y Y Y Y Y Y fun a J=> kz J Y Y Y Y Y Y fun a J=> kz J Y Y Y Y Y Y fun a J=> kz J Y Y Y Y Y Y fun a J=> kz J Y Y Y Y Y Y fun a J=> kz J Y Y Y Y Y Y fun a J=> pT J Y Y Y fun a J=> s0 ?_
  exact then_n (hK3' _ _ ⟨J.sub ⟨Y, Y, (congrArg (fun z => some (Value.bool z)) (by first | exact (decide_eq_true (by omega)).symm | exact (decide_eq_false (by omega)).symm | exact decide_eq_decide.2 (by omega))), trivial⟩, G.sel [] Y Y⟩)
 refine my J Y Y Y Y fun a J=> my J Y Y Y Y fun a J=> sv' J (wy J Y Y Y) Y Y (R.indexO Tryz.underlying22 sz5 (J.ev Y) (Rd.ne hA (by rw [length_byts]; omega)) (J.ev Y) (by omega) (by omega)) fun a J=> sv' J (wy J Y Y Y) Y Y (R.loadO one5 (J.ev Y) (hA.old G) (cb_at (i := p) (by omega) (by omega))) fun a J=> sv' J (wy J Y Y Y) Y Y (R.convI Tryz.underlying5 Tryz.underlying3 (J.ev Y) (by omega)) fun a J=> sv' J (wy J Y Y Y) Y Y (R.geq (J.ev Y) (J.ev Y)) fun a J=> pF J Y Y Y fun a J=> s0 ?_
 exact then_n (hK3' _ _ ⟨J.sub ⟨Y, Y, (congrArg (fun z => some (Value.bool z)) (by first | exact (decide_eq_true (by omega)).symm | exact (decide_eq_false (by omega)).symm | exact decide_eq_decide.2 (by omega))), trivial⟩, G.sel [] Y Y⟩)
theorem rtarget_calls (A : Option Addr) (n c : Nat) (xs : List Nat) (p : Nat) (w0 : World) (hA : Rd w0 A (byts xs)) (hn : xs.length = n) (hnc : n ≤ c) (hc : c ≤ 9223372036854775807) (hB : Byt xs) (hp : p + 3 ≤ n) : Ret Tryz.prog 30 [.slice A n c, .int .i64 ((p : Nat) : Int)] w0 [] (fun v s => v = .int .i64 ((targetN xs p : Nat) : Int) ∧ s = []) := by
 refine fn_start Tryz.func30 Y Tryz.ntmps30 Y [(0, .slice A n c), (1, .int .i64 ((p : Nat) : Int))] ⟨Y, Y, trivial⟩ ?_
 intro Q a hP J hR hN
 have G := St.start w0
 have hb1 := cAt_lt hB (p + 1); have hb2 := cAt_lt hB (p + 2)
 refine wp_seq_k fun K1 hK1=> wp_region_lit <| av J Y Y fun a J=> s0 <| then_n (hK1 _ _ <| wp_seq_k fun K2 hK2=> wp_drawS G [(0, 0), (1, 0), (2, 0), (3, 0), (4, 1), (5, 0), (6, 0), (7, 0), (8, 0), (9, 0), (10, 0), (11, 1), (12, 0), (13, 0), (14, 0)] mix (by kernel_rfl) (hP.then) fun w G=> ?_)
 have hD := G
 refine dm J Y Y Y fun a J=> dm J Y Y Y fun a J=> dv J Y Y Y Y (fun w=> R.addI (J.ev Y) (J.ev Y) (by omega)) fun a J=> dv J Y Y Y Y (fun w=> R.indexO Tryz.underlying22 sz5 (J.ev Y) (Rd.ne hA (by rw [length_byts]; omega)) (J.ev Y) (by omega) (by omega)) fun a J=> ds J Y Y Y Y hD (fun w hD=> R.loadO one5 (J.ev Y) (hA.old hD) (cb_at (i := p + 1) (by omega) (by omega))) fun a J=> ?_
 refine dv J Y Y Y Y (fun w=> R.convI Tryz.underlying5 Tryz.underlying3 (J.ev Y) (by omega)) fun a J=> dv J Y Y Y Y (fun w=> R.mulI (J.ev Y) (J.ev Y) (by omega)) fun a J=> dm J Y Y Y fun a J=> dm J Y Y Y fun a J=> dv J Y Y Y Y (fun w=> R.addI (J.ev Y) (J.ev Y) (by omega)) fun a J=> dv J Y Y Y Y (fun w=> R.indexO Tryz.underlying22 sz5 (J.ev Y) (Rd.ne hA (by rw [length_byts]; omega)) (J.ev Y) (by omega) (by omega)) fun a J=> ds J Y Y Y Y hD (fun w hD=> R.loadO one5 (J.ev Y) (hA.old hD) (cb_at (i := p + 2) (by omega) (by omega))) fun a J=> ?_
 refine dv J Y Y Y Y (fun w=> R.convI Tryz.underlying5 Tryz.underlying3 (J.ev Y) (by omega)) fun a J=> dv J Y Y Y Y (fun w=> R.addI (J.ev Y) (J.ev Y) (by omega)) fun a J=> da J Y Y Y fun a J=> d0 <| then_n (hK2 _ _ <| wp_ret (hR _ _ _ _ _ J (run_results Tryz.results30 (.t J Y (.nil))) ?_))
 exact ⟨_, [], Y, ⟨congrArg (Value.int .i64) (by unfold targetN; omega), Y⟩, G.none⟩
theorem target_calls (A : Option Addr) (n c : Nat) (xs : List Nat) (p : Nat) (w0 : World) (hA : Rd w0 A (byts xs)) (hn : xs.length = n) (hnc : n ≤ c) (hc : c ≤ 9223372036854775807) (hB : Byt xs) (hp : p + 3 ≤ n) : Ret Tryz.prog 32 [.slice A n c, .int .i64 ((p : Nat) : Int)] w0 [] (fun v s => v = .int .i64 ((targetN xs p : Nat) : Int) ∧ s = []) := by
 refine fn_start Tryz.func32 Y Tryz.ntmps32 Y [(0, .slice A n c), (1, .int .i64 ((p : Nat) : Int))] ⟨Y, Y, trivial⟩ ?_
 intro Q a hP J hR hN
 have G := St.start w0
 have hb1 := cAt_lt hB (p + 1); have hb2 := cAt_lt hB (p + 2)
 refine wp_seq_k fun K1 hK1=> wp_region_lit <| av J Y Y fun a J=> s0 <| then_n (hK1 _ _ <| wp_seq_k fun K2 hK2=> wp_drawS G [(0, 0), (1, 0), (2, 0), (3, 0), (4, 1), (5, 0), (6, 0), (7, 0), (8, 0), (9, 0), (10, 0), (11, 1), (12, 0), (13, 0), (14, 0)] mix (by kernel_rfl) (hP.then) fun w G=> ?_)
 have hD := G
 refine dm J Y Y Y fun a J=> dm J Y Y Y fun a J=> dv J Y Y Y Y (fun w=> R.addI (J.ev Y) (J.ev Y) (by omega)) fun a J=> dv J Y Y Y Y (fun w=> R.indexO Tryz.underlying22 sz5 (J.ev Y) (Rd.ne hA (by rw [length_byts]; omega)) (J.ev Y) (by omega) (by omega)) fun a J=> ds J Y Y Y Y hD (fun w hD=> R.loadO one5 (J.ev Y) (hA.old hD) (cb_at (i := p + 1) (by omega) (by omega))) fun a J=> ?_
 refine dv J Y Y Y Y (fun w=> R.convI Tryz.underlying5 Tryz.underlying3 (J.ev Y) (by omega)) fun a J=> dv J Y Y Y Y (fun w=> R.shlI (m := 8) (J.ev Y) (J.ev Y) (by decide) (by omega)) fun a J=> dm J Y Y Y fun a J=> dm J Y Y Y fun a J=> dv J Y Y Y Y (fun w=> R.addI (J.ev Y) (J.ev Y) (by omega)) fun a J=> dv J Y Y Y Y (fun w=> R.indexO Tryz.underlying22 sz5 (J.ev Y) (Rd.ne hA (by rw [length_byts]; omega)) (J.ev Y) (by omega) (by omega)) fun a J=> ds J Y Y Y Y hD (fun w hD=> R.loadO one5 (J.ev Y) (hA.old hD) (cb_at (i := p + 2) (by omega) (by omega))) fun a J=> ?_
 refine dv J Y Y Y Y (fun w=> R.convI Tryz.underlying5 Tryz.underlying3 (J.ev Y) (by omega)) fun a J=> dv J Y Y Y Y (fun w=> R.as (u := .int .i64 ((targetN xs p : Nat) : Int)) (R.orI (J.ev Y) (J.ev Y) (by omega) (by omega)) (congrArg (fun z : Nat=> Value.int .i64 (z : Int)) (or8_as hb2))) fun a J=> da J Y Y Y fun a J=> d0 <| then_n (hK2 _ _ <| wp_ret (hR _ _ _ _ _ J (run_results Tryz.results32 (.t J Y (.nil))) ?_))
 exact ⟨_, [], Y, ⟨Y, Y⟩, G.none⟩
theorem among_calls (A : Option Addr) (n c x : Nat) (l : List Nat) (w0 : World) (hA : Rd w0 A (ints l)) (hn : l.length = n) (hc : n ≤ 9223372036854775807) : Ret Tryz.prog 52 [.slice A n c, .int .i64 ((x : Nat) : Int)] w0 [] (fun v s => v = .bool (l.contains x) ∧ s = []) := by
 refine fn_start Tryz.func52 Y Tryz.ntmps52 Y [(0, .slice A n c), (1, .int .i64 ((x : Nat) : Int))] ⟨Y, Y, trivial⟩ ?_
 intro Q a hP J hR hN
 have G := St.start w0
 refine wp_seq_k fun K1 hK1=> wp_region_lit <| av J Y Y fun a J=> s0 <| then_n (hK1 _ _ <| wp_seq_k fun K2 hK2=> wp_seq_k fun K3 hK3=> wp_region_lit <| av J Y Y fun a J=> s0 <| then_n (hK3 _ _ <| wp_block <| wp_loop_N (fun g a w=> ∃ (i : Nat), n - i = g ∧ Fr 18 [(0, .slice A n c), (1, .int .i64 ((x : Nat) : Int)), (5, .int .i64 ((i : Nat) : Int))] a ∧ St w0 [] [] w ∧ (i ≤ n) ∧ ((l.take i).contains x = false)) (n - 0) ?_ ?_))
 ·exact ⟨0, Y, J.sub ⟨Y, Y, Y, trivial⟩, G.sel [] Y Y, by omega, Y⟩
 rintro KL1 g a w ⟨i, hg1, J, G, hi, hl⟩ hKL1
 refine wp_seq_k fun K4 hK4=> wp_seq_k fun K5 hK5=> wp_region_lit <| mv J Y Y fun a J=> mv J Y Y fun a J=> sw J Y Y Y (R.len Tryz.underlying61 (J.ev Y)) fun a J=> lS J Y Y Y fun a J=> s0 <| then_n (hK5 _ _ <| cD J Y (fun c1=> ?_) (fun c1=> ?_))
 ·refine wp_skip <| then_n (hK4 _ _ <| wp_seq_k fun K6 hK6=> wp_block <| wp_seq_k fun K7 hK7=> wp_region_lit <| mv J Y Y fun a J=> mv J Y Y fun a J=> sw J Y Y Y (R.indexO Tryz.underlying61 sz3 (J.ev Y) (Rd.ne hA (by rw [length_ints]; omega)) (J.ev Y) (by omega) (by omega)) fun a J=> sw J Y Y Y (R.loadO one3 (J.ev Y) (hA.old G) (ints_get (i := i) (by omega) (by omega))) fun a J=> mv J Y Y fun a J=> eL J Y Y Y fun a J=> s0 <| then_n (hK7 _ _ <| cD J Y (fun c2=> ?_) (fun c2=> ?_)))
  ·refine wp_seq_k fun K8 hK8=> wp_region_lit <| av J Y Y fun a J=> s0 <| then_n (hK8 _ _ <| wp_ret (blk_r (then_r (then_r (blk_r (then_r (hR _ _ _ _ _ J (run_results Tryz.results52 (.t J Y (.nil))) ?_)))))))
   exact ⟨_, [], Y, ⟨congrArg Value.bool (take_has (i := i) (by omega) c2).symm, Y⟩, G.none⟩
  refine wp_skip <| blk_n <| then_n (hK6 _ _ <| wp_region_lit <| mv J Y Y fun a J=> aI J Y Y Y (by omega) fun a J=> av J Y Y fun a J=> s0 <| then_n (hKL1 (n - (i + 1)) _ _ ?_ ?_))
  ·omega
  exact ⟨i + 1, Y, J.sub ⟨Y, Y, (congrArg (fun z => some (Value.int .i64 z)) (by omega)), trivial⟩, G.sel [] Y Y, by omega, take_nohas (by omega) hl c2⟩
 obtain rfl : i = n := by omega
 have htk : l.take i = l := List.take_of_length_le (by omega)
 rw [htk] at hl
 refine wp_exit (then_x (then_x (blk_hit <| then_n (hK2 _ _ <| wp_seq_k fun K9 hK9=> wp_region_lit <| av J Y Y fun a J=> s0 <| then_n (hK9 _ _ <| wp_ret (hR _ _ _ _ _ J (run_results Tryz.results52 (.t J Y (.nil))) ?_))))))
 exact ⟨_, [], Y, ⟨congrArg Value.bool hl.symm, Y⟩, G.none⟩
end Go.Proofs.YtlapmbkfmbkdoaaGreatDoor
end
section
namespace Go.Proofs.YtlapmbkfmbkdoaaGreatDoor
open Go Go.Fw Go.RowKit
attribute [local irreducible] Go.Oper.wp Go.Code.wp Go.wpList Go.Fw.WL Go.Calls
theorem plcs_cons {xs : List Nat} {p : Nat} {r : List Nat} (h : p < xs.length) (hr : plcs xs p = some r) : ∃ r', sizeN xs p ≠ 0 ∧ r = p :: r' ∧ plcs xs (p + sizeN xs p) = some r' := by
  by_cases hs : sizeN xs p = 0
  · rw [plcs_bad h hs] at hr; simp at hr
  · rw [plcs_next h hs] at hr
    cases hq : plcs xs (p + sizeN xs p) with
    | none => rw [hq] at hr; simp at hr
    | some r' => rw [hq] at hr; simp at hr; exact ⟨r', hs, hr.symm, rfl⟩
theorem plcs_step {xs l : List Nat} {i : Nat} (h : i < xs.length) (hs : sizeN xs i ≠ 0) (hp : plcs xs 0 = (plcs xs i).map (l ++ ·)) : plcs xs 0 = (plcs xs (i + sizeN xs i)).map ((l ++ [i]) ++ ·) := by
  rw [hp, plcs_next h hs, Option.map_map]
  congr 1; funext r; simp
theorem isJump_of {xs : List Nat} {q : Nat} (h : cAt xs q = 14 ∨ cAt xs q = 15) : isJump xs q = true := by simpa [isJump] using h
def okJ (xs l : List Nat) (q : Nat) : Bool := !isJump xs q || l.contains (targetN xs q)
theorem okJ_j {xs l : List Nat} {q : Nat} (h : cAt xs q = 14 ∨ cAt xs q = 15) : okJ xs l q = l.contains (targetN xs q) := by
  have : isJump xs q = true := by simpa [isJump] using h
  simp [okJ, this]
theorem okJ_n {xs l : List Nat} {q : Nat} (h : ¬ (cAt xs q = 14 ∨ cAt xs q = 15)) : okJ xs l q = true := by
  have : isJump xs q = false := by simpa [isJump] using h
  simp [okJ, this]
theorem okJ_far {xs l : List Nat} {q : Nat} (h : cAt xs q = 14 ∨ cAt xs q = 15) (hl : placesN xs = some l) (hf : xs.length ≤ targetN xs q) : okJ xs l q = false := by
  rw [okJ_j h]
  cases hc : l.contains (targetN xs q) with
  | false => rfl
  | true =>
    have := (places_mem hl _ (by simpa using hc)).1
    omega
def chkV (xs : List Nat) : Value := .int .i64 (if chkN xs then 0 else 100)
theorem chk_len {xs : List Nat} (h : xs.length < 1 ∨ 1024 < xs.length) : chkV xs = .int .i64 100 := by
  have : chkN xs = false := by
    unfold chkN
    rcases h with h | h
    · have : ¬ 1 ≤ xs.length := by omega
      simp [this]
    · have : ¬ xs.length ≤ 1024 := by omega
      simp [this]
  rw [chkV, this]; rfl
theorem chk_none {xs : List Nat} (h : placesN xs = none) : chkV xs = .int .i64 100 := by
  have : chkN xs = false := by simp [chkN, h]
  rw [chkV, this]; rfl
theorem chk_bad {xs l : List Nat} {q : Nat} (h : placesN xs = some l) (hq : q ∈ l) (hb : okJ xs l q = false) : chkV xs = .int .i64 100 := by
  have : chkN xs = false := by
    simp only [chkN, h]
    cases hc : (l.all fun p => !isJump xs p || l.contains (targetN xs p)) with
    | false => simp
    | true =>
      have h2 := List.all_eq_true.1 hc q hq
      change okJ xs l q = true at h2
      rw [hb] at h2; simp at h2
  rw [chkV, this]; rfl
theorem chk_ok {xs l : List Nat} (h1 : ¬ (xs.length < 1 ∨ 1024 < xs.length)) (h : placesN xs = some l) (ha : l.all (okJ xs l) = true) : chkV xs = .int .i64 0 := by
  have : chkN xs = true := by
    have h2 : 1 ≤ xs.length := by omega
    have h3 : xs.length ≤ 1024 := by omega
    simp only [chkN, h, h2, h3, decide_true, Bool.true_and]
    exact ha
  rw [chkV, this]; rfl
theorem all_snoc {l : List Nat} {f : Nat → Bool} {q : Nat} (h : l.all f = true) (hq : f q = true) : (l ++ [q]).all f = true := by simp only [List.all_append, h, List.all_cons, hq, List.all_nil, Bool.and_self]
theorem all_take {l : List Nat} {f : Nat → Bool} {i : Nat} (hi : i < l.length) (h : (l.take i).all f = true) (hq : f (l.getD i 0) = true) : (l.take (i + 1)).all f = true := by
  rw [List.take_succ_eq_append_getElem hi]
  exact all_snoc h (by simpa [List.getD_eq_getElem?_getD, hi] using hq)
theorem getD_mem {l : List Nat} {i : Nat} (h : i < l.length) : l.getD i 0 ∈ l := by
  rw [List.getD_eq_getElem?_getD, List.getElem?_eq_getElem h]; exact List.getElem_mem h
def begs (l : List Nat) : List Value := (List.range 1025).map fun j => .bool (l.contains j)
theorem length_begs (l : List Nat) : (begs l).length = 1025 := by simp [begs]
theorem begs_at {l : List Nat} {j off : Nat} (h : j < 1025) (ho : off = j) : (begs l)[off]? = some (.bool (l.contains j)) := by subst ho; simp [begs, h]
theorem begs_set {l : List Nat} {i off : Nat} (ho : off = i) : (begs l).set off (.bool true) = begs (l ++ [i]) := by
  subst ho
  apply List.ext_getElem?
  intro j
  rw [List.getElem?_set]
  by_cases hj : j < 1025
  · rw [begs_at hj rfl, begs_at hj rfl, length_begs]
    by_cases e : off = j
    · subst e; simp [hj]
    · rw [if_neg e]
      have : ¬ j = off := fun h => e h.symm
      simp [this]
  · rw [List.getElem?_eq_none (by rw [length_begs]; omega), List.getElem?_eq_none (by rw [length_begs]; omega)]
    by_cases e : off = j
    · rw [if_pos e, if_neg (by rw [length_begs]; omega)]
    · rw [if_neg e]
theorem ze59b : zeT Tryz.prog 106 (.agg (begs []).toArray) := by unfold zeT; kernel_rfl
theorem places_calls (A : Option Addr) (n c : Nat) (xs : List Nat) (w0 : World) (hA : Rd w0 A (byts xs)) (hn : xs.length = n) (hnc : n ≤ c) (hc : c ≤ 9223372036854775807) (hB : Byt xs) (hn2 : n ≤ 1024) : Ret Tryz.prog 24 [.slice A n c] w0 [] (fun v s => RetP xs v s) := by
 refine fn_start Tryz.func24 Y Tryz.ntmps24 Y [(0, .slice A n c)] ⟨Y, trivial⟩ ?_
 intro Q a hP J hR hN
 have G := St.start w0
 refine wp_seq_k fun K1 hK1=> wp_region_lit <| av J Y Y fun a J=> av J Y Y fun a J=> s0 <| then_n (hK1 _ _ <| wp_seq_k fun K2 hK2=> wp_region_lit <| av J Y Y fun a J=> s0 <| then_n (hK2 _ _ <| wp_seq_k fun K3 hK3=> ?_))
 have G := G.cons0
 refine wp_region_lit <| av J Y Y fun a J=> s0 <| then_n (hK3 _ _ <| wp_seq_k fun K4 hK4=> wp_block <| wp_loop_N (fun g a w=> ∃ (i : Nat) (A2 : Option Addr) (e : Nat) (z : Seg) (l : List Nat), n - i = g ∧ Fr 24 [(0, .slice A n c), (4, .slice A2 l.length e), (5, .int .i64 ((i : Nat) : Int))] a ∧ St w0 [] [z] w ∧ (i ≤ n) ∧ (plcs xs 0 = (plcs xs i).map (l ++ ·)) ∧ (l.length ≤ i) ∧ (OwnS z A2 l.length e (ints l) 3 1)) (n - 0) ?_ ?_)
 ·exact ⟨0, none, 0, [], [], Y, J.sub ⟨Y, Y, Y, trivial⟩, G.sel [0] Y Y, by omega, by simp, Nat.le_refl _, OwnS.nil 3 1⟩
 rintro KL1 g a w ⟨i, A2, e, z, l, hg1, J, G, hi, hp, hll, hO⟩ hKL1
 refine wp_seq_k fun K5 hK5=> wp_seq_k fun K6 hK6=> wp_region_lit <| mv J Y Y fun a J=> mv J Y Y fun a J=> sw J Y Y Y (R.len Tryz.underlying22 (J.ev Y)) fun a J=> lS J Y Y Y fun a J=> s0 <| then_n (hK6 _ _ <| cD J Y (fun c1=> ?_) (fun c1=> ?_))
 ·have hsz := sizeN_le xs i
  refine wp_skip <| then_n (hK5 _ _ <| wp_block <| wp_seq_k fun K7 hK7=> wp_region_lit <| mv J Y Y fun a J=> mv J Y Y fun a J=> so (wn Y) (O.call Y Y J ent40 (J.evs Y) G (rsize_calls A n c xs (i) w (hA.old G) hn hnc hc hB (by omega)) fun v s13 a w hR J G=> ?_))
  obtain ⟨rfl, rfl⟩ := hR
  refine av J Y Y fun a J=> s0 <| then_n (hK7 _ _ <| wp_seq_k fun K8 hK8=> wp_seq_k fun K9 hK9=> wp_region_lit <| mv J Y Y fun a J=> eL J Y Y Y fun a J=> s0 <| then_n (hK9 _ _ <| cD J Y (fun c2=> ?_) (fun c2=> ?_)))
  ·have hpl : placesN xs = none := by (have := hp; rw [plcs_bad (p := i) (by omega) (by omega)] at this; exact this)
   refine wp_seq_k fun K10 hK10=> wp_region_lit <| av J Y Y fun a J=> av J Y Y fun a J=> s0 <| then_n (hK10 _ _ <| wp_ret (then_r (blk_r (then_r (blk_r (then_r (hR _ _ _ _ _ J (run_results Tryz.results24 (.t J Y (.t J Y (.nil)))) ?_)))))))
   exact ⟨_, [], Y, RetP.none hpl, G.none⟩
  have hs : sizeN xs i ≠ 0 := by omega
  refine wp_skip <| then_n (hK8 _ _ <| wp_seq_k fun K11 hK11=> wp_region_lit <| mv J Y Y fun a J=> mv J Y Y fun a J=> so (wn Y) (O.buildSlice (l := [_]) Y Y J Tryz.underlying61 inf3 Y Y (J.evp Y) (by decide) Y G fun b18 a w J G=> ?_))
  refine so (wn Y) (O.append Y Y J Tryz.underlying61 inf3 Y Y (by decide) (J.ev Y) (J.ev Y) G hO (fun _=> (.t (.t .h))) (Rd.own0 G .h) (Y) (by simp [Value.oneCell']) (by unfold maxLen; omega) (by omega) fun A19 c19 s19 a w hO19 J G=> ?_)
  refine av J Y Y fun a J=> s0 <| then_n (hK11 _ _ <| wp_region_lit <| mv J Y Y fun a J=> mv J Y Y fun a J=> aI J Y Y Y (by omega) fun a J=> av J Y Y fun a J=> s0 <| blk_n <| then_n (hKL1 (n - (i + sizeN xs i)) _ _ ?_ ?_))
  ·omega
  exact ⟨i + sizeN xs i, A19, c19, s19, l ++ [i], Y, J.sub ⟨Y, (by rw [List.length_append]; rfl), (congrArg (fun z => some (Value.int .i64 z)) (by omega)), trivial⟩, G.sel [2] Y Y, by have := (sizeN_le xs i).resolve_left hs; omega, plcs_step (by omega) hs hp, by rw [List.length_append, List.length_singleton]; omega, own_isnoc hO19⟩
 have hpl : placesN xs = some l := by (have := hp; rw [plcs_end (p := i) (by omega)] at this; exact this.trans (by simp))
 refine wp_exit (then_x (then_x (blk_hit <| then_n (hK4 _ _ <| wp_seq_k fun K12 hK12=> wp_region_lit <| mv J Y Y fun a J=> av J Y Y fun a J=> av J Y Y fun a J=> s0 <| then_n (hK12 _ _ <| wp_ret (hR _ _ _ _ _ J (run_results Tryz.results24 (.t J Y (.t J Y (.nil)))) ?_))))))
 exact ⟨_, z, Y, RetP.some hpl hO, G.one .h⟩
theorem places_none (A : Option Addr) (n c : Nat) (xs : List Nat) (w0 : World) (hA : Rd w0 A (byts xs)) (hn : xs.length = n) (hnc : n ≤ c) (hc : c ≤ 9223372036854775807) (hB : Byt xs) (hn2 : n ≤ 1024) (h : placesN xs = none) : Ret Tryz.prog 24 [.slice A n c] w0 [] (fun v s => v = .tuple #[.slice none 0 0, .bool false] ∧ s = []) := by
  have := places_calls A n c xs w0 hA hn hnc hc hB hn2
  simpa only [RetP, h] using this
theorem places_some (A : Option Addr) (n c : Nat) (xs l : List Nat) (w0 : World) (hA : Rd w0 A (byts xs)) (hn : xs.length = n) (hnc : n ≤ c) (hc : c ≤ 9223372036854775807) (hB : Byt xs) (hn2 : n ≤ 1024) (h : placesN xs = some l) : Ret Tryz.prog 24 [.slice A n c] w0 [] (fun v s => ∃ A c, v = .tuple #[.slice A l.length c, .bool true] ∧ OwnS s A l.length c (ints l) 3 1) := by
  have := places_calls A n c xs w0 hA hn hnc hc hB hn2
  simpa only [RetP, h] using this
theorem rcheck_none (A : Option Addr) (n c : Nat) (xs : List Nat) (w0 : World) (hA : Rd w0 A (byts xs)) (hn : xs.length = n) (hnc : n ≤ c) (hc : c ≤ 9223372036854775807) (hB : Byt xs) (hpl : placesN xs = none) : Ret Tryz.prog 15 [.slice A n c] w0 [] (fun v s => v = chkV xs ∧ s = []) := by
 refine fn_start Tryz.func15 Y Tryz.ntmps15 Y [(0, .slice A n c)] ⟨Y, trivial⟩ ?_
 intro Q a hP J hR hN
 have G := St.start w0
 refine wp_seq_k fun K1 hK1=> wp_region_lit <| av J Y Y fun a J=> s0 <| then_n (hK1 _ _ <| wp_seq_k fun K2 hK2=> wp_seq_k fun K3 hK3=> ?_)
 have hK3' : ∀ a w, (Fr 53 [(0, .slice A n c), (14, .bool (decide (n < 1 ∨ 1024 < n)))] a ∧ St w0 [] [] w) → K3 a w := by
  rintro a w ⟨J, G⟩
  refine hK3 _ _ ?_
  refine cD J Y (fun c1=> ?_) (fun c1=> ?_)
  ·refine wp_seq_k fun K4 hK4=> wp_region_lit <| av J Y Y fun a J=> s0 <| then_n (hK4 _ _ <| wp_ret (then_r (hR _ _ _ _ _ J (run_results Tryz.results15 (.t J Y (.nil))) ?_)))
   exact ⟨_, [], Y, ⟨(chk_len (by omega)).symm, Y⟩, G.none⟩
  refine wp_skip <| then_n (hK2 _ _ <| wp_seq_k fun K5 hK5=> wp_region_lit <| mv J Y Y fun a J=> so (wn Y) (O.call Y Y J ent24 (J.evs Y) G (places_none A n c xs w (hA.old G) hn hnc hc hB (by omega) hpl) fun v s17 a w hR J G=> ?_))
  obtain ⟨rfl, rfl⟩ := hR
  refine mv J Y Y fun a J=> xv J Y Y Y fun a J=> xv J Y Y Y fun a J=> av J Y Y fun a J=> av J Y Y fun a J=> s0 <| then_n (hK5 _ _ <| wp_seq_k fun K6 hK6=> wp_seq_k fun K7 hK7=> wp_region_lit <| mv J Y Y fun a J=> ?_)
  refine sw J Y Y Y ((by first | exact R.notD (J.ev Y) | exact R.not (J.ev Y))) fun a J=> ?_
  refine s0 <| then_n (hK7 _ _ <| cT J Y <| wp_seq_k fun K8 hK8=> wp_region_lit <| av J Y Y fun a J=> s0 <| then_n (hK8 _ _ <| wp_ret (then_r (hR _ _ _ _ _ J (run_results Tryz.results15 (.t J Y (.nil))) ?_))))
  exact ⟨_, [], Y, ⟨(chk_none hpl).symm, Y⟩, G.none⟩
 refine wp_region_lit <| mv J Y Y fun a J=> sw J Y Y Y (R.len Tryz.underlying22 (J.ev Y)) fun a J=> lS J Y Y Y fun a J=> mv J Y Y fun a J=> J.splitD (t := 10) Y (fun h10 J=> ?_) (fun h10 J=> ?_)
 ·refine kz J Y Y Y Y Y Y fun a J=> kz J Y Y Y Y Y Y fun a J=> kz J Y Y Y Y Y Y fun a J=> pT J Y Y Y fun a J=> s0 ?_
  exact then_n (hK3' _ _ ⟨J.sub ⟨Y, (congrArg (fun z => some (Value.bool z)) (by first | exact (decide_eq_true (by omega)).symm | exact (decide_eq_false (by omega)).symm | exact decide_eq_decide.2 (by omega))), trivial⟩, G.sel [] Y Y⟩)
 refine my J Y Y Y Y fun a J=> sv' J (wy J Y Y Y) Y Y (R.len Tryz.underlying22 (J.ev Y)) fun a J=> sv' J (wy J Y Y Y) Y Y (R.gtr (J.ev Y) (J.ev Y)) fun a J=> pF J Y Y Y fun a J=> s0 ?_
 exact then_n (hK3' _ _ ⟨J.sub ⟨Y, (congrArg (fun z => some (Value.bool z)) (by first | exact (decide_eq_true (by omega)).symm | exact (decide_eq_false (by omega)).symm | exact decide_eq_decide.2 (by omega))), trivial⟩, G.sel [] Y Y⟩)
set_option maxHeartbeats 1000000 in
theorem rcheck_some (A : Option Addr) (n c : Nat) (xs : List Nat) (l : List Nat) (w0 : World) (hA : Rd w0 A (byts xs)) (hn : xs.length = n) (hnc : n ≤ c) (hc : c ≤ 9223372036854775807) (hB : Byt xs) (hpl : placesN xs = some l) : Ret Tryz.prog 15 [.slice A n c] w0 [] (fun v s => v = chkV xs ∧ s = []) := by
 refine fn_start Tryz.func15 Y Tryz.ntmps15 Y [(0, .slice A n c)] ⟨Y, trivial⟩ ?_
 intro Q a hP J hR hN
 have G := St.start w0
 refine wp_seq_k fun K1 hK1=> wp_region_lit <| av J Y Y fun a J=> s0 <| then_n (hK1 _ _ <| wp_seq_k fun K2 hK2=> wp_seq_k fun K3 hK3=> ?_)
 have hK3' : ∀ a w, (Fr 53 [(0, .slice A n c), (14, .bool (decide (n < 1 ∨ 1024 < n)))] a ∧ St w0 [] [] w) → K3 a w := by
  rintro a w ⟨J, G⟩
  refine hK3 _ _ ?_
  refine cD J Y (fun c1=> ?_) (fun c1=> ?_)
  ·refine wp_seq_k fun K4 hK4=> wp_region_lit <| av J Y Y fun a J=> s0 <| then_n (hK4 _ _ <| wp_ret (then_r (hR _ _ _ _ _ J (run_results Tryz.results15 (.t J Y (.nil))) ?_)))
   exact ⟨_, [], Y, ⟨(chk_len (by omega)).symm, Y⟩, G.none⟩
  refine wp_skip <| then_n (hK2 _ _ <| wp_seq_k fun K5 hK5=> wp_region_lit <| mv J Y Y fun a J=> so (wn Y) (O.call Y Y J ent24 (J.evs Y) G (places_some A n c xs l w (hA.old G) hn hnc hc hB (by omega) hpl) fun v s17 a w hR J G=> ?_))
  obtain ⟨A17, c17, rfl, hO17⟩ := hR
  refine mv J Y Y fun a J=> xv J Y Y Y fun a J=> xv J Y Y Y fun a J=> av J Y Y fun a J=> av J Y Y fun a J=> s0 <| then_n (hK5 _ _ <| wp_seq_k fun K6 hK6=> wp_seq_k fun K7 hK7=> wp_region_lit <| mv J Y Y fun a J=> ?_)
  refine sw J Y Y Y ((by first | exact R.notD (J.ev Y) | exact R.not (J.ev Y))) fun a J=> ?_
  refine s0 <| then_n (hK7 _ _ <| cF J Y <| wp_skip <| then_n (hK6 _ _ <| wp_seq_k fun K8 hK8=> wp_seq_k fun K9 hK9=> wp_region_lit <| av J Y Y fun a J=> s0 <| then_n (hK9 _ _ <| wp_block <| wp_loop_N (fun g a w=> ∃ (i : Nat), l.length - i = g ∧ Fr 53 [(0, .slice A n c), (3, .slice A17 l.length c17), (5, .int .i64 ((i : Nat) : Int))] a ∧ St w0 [] [s17] w ∧ (i ≤ l.length) ∧ ((l.take i).all (okJ xs l) = true)) (l.length - 0) ?_ ?_)))
  ·exact ⟨0, Y, J.sub ⟨Y, Y, Y, trivial⟩, G.sel [0] Y Y, by omega, Y⟩
  rintro KL1 g a w ⟨i, hg1, J, G, hi, ha⟩ hKL1
  have hc17 : c17 ≤ 9223372036854775807 := hO17.cap; have hn17 := hO17.2.1
  refine wp_seq_k fun K10 hK10=> wp_seq_k fun K11 hK11=> wp_region_lit <| mv J Y Y fun a J=> mv J Y Y fun a J=> sw J Y Y Y (R.len Tryz.underlying61 (J.ev Y)) fun a J=> lS J Y Y Y fun a J=> s0 <| then_n (hK11 _ _ <| cD J Y (fun c2=> ?_) (fun c2=> ?_))
  ·have hq := places_mem hpl _ (getD_mem (l := l) (i := i) (by omega)); have hq1 := hq.1; have hq2 := hq.2; have hb := cAt_lt hB (l.getD i 0)
   refine wp_skip <| then_n (hK10 _ _ <| wp_seq_k fun K12 hK12=> wp_block <| wp_seq_k fun K13 hK13=> wp_region_lit <| mv J Y Y fun a J=> mv J Y Y fun a J=> mv J Y Y fun a J=> sw J Y Y Y (R.indexO Tryz.underlying61 sz3 (J.ev Y) ((hO17.rd G .h).ne (by rw [length_ints]; omega)) (J.ev Y) (by omega) (by omega)) fun a J=> sw J Y Y Y (R.loadO one3 (J.ev Y) (hO17.rd G .h) (ints_get (i := i) (by omega) (by omega))) fun a J=> sw J Y Y Y (R.indexO Tryz.underlying22 sz5 (J.ev Y) (Rd.ne hA (by rw [length_byts]; omega)) (J.ev Y) (by omega) (by omega)) fun a J=> sw J Y Y Y (R.loadO one5 (J.ev Y) (hA.old G) (cb_at (i := (l.getD i 0)) (by omega) (by omega))) fun a J=> sw J Y Y Y (R.convI Tryz.underlying5 Tryz.underlying3 (J.ev Y) (by omega)) fun a J=> av J Y Y fun a J=> s0 <| then_n (hK13 _ _ <| wp_seq_k fun K14 hK14=> ?_))
   have hK14' : ∀ a w, (Fr 53 [(0, .slice A n c), (3, .slice A17 l.length c17), (5, .int .i64 ((i : Nat) : Int)), (52, .bool (!okJ xs l (l.getD i 0)))] a ∧ St w0 [] [s17] w) → K14 a w := by
    rintro a w ⟨J, G⟩
    refine hK14 _ _ ?_
    refine cS J Y (fun c3=> ?_) (fun c3=> ?_)
    ·have hok : okJ xs l (l.getD i 0) = false := by simpa using c3
     refine wp_seq_k fun K15 hK15=> wp_region_lit <| av J Y Y fun a J=> s0 <| then_n (hK15 _ _ <| wp_ret (blk_r (then_r (then_r (blk_r (then_r (hR _ _ _ _ _ J (run_results Tryz.results15 (.t J Y (.nil))) ?_)))))))
     exact ⟨_, [], Y, ⟨(chk_bad hpl (getD_mem (i := i) (by omega)) hok).symm, Y⟩, G.none⟩
    have hok : okJ xs l (l.getD i 0) = true := by simpa using c3
    refine wp_skip <| blk_n <| then_n (hK12 _ _ <| wp_region_lit <| mv J Y Y fun a J=> aI J Y Y Y (by omega) fun a J=> av J Y Y fun a J=> s0 <| then_n (hKL1 (l.length - (i + 1)) _ _ ?_ ?_))
    ·omega
    exact ⟨i + 1, Y, J.sub ⟨Y, Y, (congrArg (fun z => some (Value.int .i64 z)) (by omega)), trivial⟩, G.sel [0] Y Y, by omega, all_take (by omega) ha hok⟩
   refine wp_region_lit <| mv J Y Y fun a J=> eL J Y Y Y fun a J=> mv J Y Y fun a J=> J.splitD (t := 38) Y (fun h38 J=> ?_) (fun h38 J=> ?_)
   ·refine kz J Y Y Y Y Y Y fun a J=> kz J Y Y Y Y Y Y fun a J=> pT J Y Y Y fun a J=> mv J Y Y fun a J=> my J Y Y Y Y fun a J=> my J Y Y Y Y fun a J=> my J Y Y Y Y fun a J=> my J Y Y Y Y fun a J=> sv' J (wy J Y Y Y) Y Y (R.indexO Tryz.underlying61 sz3 (J.ev Y) ((hO17.rd G .h).ne (by rw [length_ints]; omega)) (J.ev Y) (by omega) (by omega)) fun a J=> sv' J (wy J Y Y Y) Y Y (R.loadO one3 (J.ev Y) (hO17.rd G .h) (ints_get (i := i) (by omega) (by omega))) fun a J=> so (wy J Y Y Y) (O.call Y Y J ent30 (J.evs Y) G (rtarget_calls A n c xs (l.getD i 0) w (hA.old G) hn hnc hc hB (by have := (jump_size (xs := xs) (p := (l.getD i 0)) (by omega) hq2 (isJump_of (by omega))); omega)) fun v s49 a w hR J G=> ?_)
    obtain ⟨rfl, rfl⟩ := hR
    refine so (wy J Y Y Y) (O.call Y Y J ent52 (J.evs Y) G (among_calls A17 l.length c17 (targetN xs (l.getD i 0)) l w (hO17.rd G (.t .h)) Y (by have := hO17.2.1; have := hO17.cap; omega)) fun v s50 a w hR J G=> ?_)
    obtain ⟨rfl, rfl⟩ := hR
    refine sv' J (wy J Y Y Y) Y Y ((by first | exact R.notD (J.ev Y) | exact R.not (J.ev Y))) fun a J=> ?_
    refine pT J Y Y Y fun a J=> s0 ?_
    exact then_n (hK14' _ _ ⟨J.sub ⟨Y, Y, Y, (by first | (rw [okJ_j (by omega)]; rfl) | (rw [okJ_n (by omega)]; rfl)), trivial⟩, G.sel [2] Y Y⟩)
   refine my J Y Y Y Y fun a J=> sv' J (wy J Y Y Y) Y Y (R.eql (J.ev Y) (J.ev Y)) fun a J=> pF J Y Y Y fun a J=> mv J Y Y fun a J=> J.splitD (t := 42) Y (fun h42 J=> ?_) (fun h42 J=> ?_)
   ·refine my J Y Y Y Y fun a J=> my J Y Y Y Y fun a J=> my J Y Y Y Y fun a J=> my J Y Y Y Y fun a J=> sv' J (wy J Y Y Y) Y Y (R.indexO Tryz.underlying61 sz3 (J.ev Y) ((hO17.rd G .h).ne (by rw [length_ints]; omega)) (J.ev Y) (by omega) (by omega)) fun a J=> sv' J (wy J Y Y Y) Y Y (R.loadO one3 (J.ev Y) (hO17.rd G .h) (ints_get (i := i) (by omega) (by omega))) fun a J=> so (wy J Y Y Y) (O.call Y Y J ent30 (J.evs Y) G (rtarget_calls A n c xs (l.getD i 0) w (hA.old G) hn hnc hc hB (by have := (jump_size (xs := xs) (p := (l.getD i 0)) (by omega) hq2 (isJump_of (by omega))); omega)) fun v s49 a w hR J G=> ?_)
    obtain ⟨rfl, rfl⟩ := hR
    refine so (wy J Y Y Y) (O.call Y Y J ent52 (J.evs Y) G (among_calls A17 l.length c17 (targetN xs (l.getD i 0)) l w (hO17.rd G (.t .h)) Y (by have := hO17.2.1; have := hO17.cap; omega)) fun v s50 a w hR J G=> ?_)
    obtain ⟨rfl, rfl⟩ := hR
    refine sv' J (wy J Y Y Y) Y Y ((by first | exact R.notD (J.ev Y) | exact R.not (J.ev Y))) fun a J=> ?_
    refine pT J Y Y Y fun a J=> s0 ?_
    exact then_n (hK14' _ _ ⟨J.sub ⟨Y, Y, Y, (by first | (rw [okJ_j (by omega)]; rfl) | (rw [okJ_n (by omega)]; rfl)), trivial⟩, G.sel [2] Y Y⟩)
   refine kz J Y Y Y Y Y Y fun a J=> kz J Y Y Y Y Y Y fun a J=> kz J Y Y Y Y Y Y fun a J=> kz J Y Y Y Y Y Y fun a J=> kz J Y Y Y Y Y Y fun a J=> kz J Y Y Y Y Y Y fun a J=> kz J Y Y Y Y Y Y fun a J=> kz J Y Y Y Y Y Y fun a J=> kz J Y Y Y Y Y Y fun a J=> pF J Y Y Y fun a J=> s0 ?_
   exact then_n (hK14' _ _ ⟨J.sub ⟨Y, Y, Y, (by first | (rw [okJ_j (by omega)]; rfl) | (rw [okJ_n (by omega)]; rfl)), trivial⟩, G.sel [0] Y Y⟩)
  obtain rfl : i = l.length := by omega
  rw [List.take_length] at ha
  refine wp_exit (then_x (then_x (blk_hit <| then_n (hK8 _ _ <| wp_seq_k fun K16 hK16=> wp_region_lit <| av J Y Y fun a J=> s0 <| then_n (hK16 _ _ <| wp_ret (hR _ _ _ _ _ J (run_results Tryz.results15 (.t J Y (.nil))) ?_))))))
  exact ⟨_, [], Y, ⟨(chk_ok (by omega) hpl ha).symm, Y⟩, G.none⟩
 refine wp_region_lit <| mv J Y Y fun a J=> sw J Y Y Y (R.len Tryz.underlying22 (J.ev Y)) fun a J=> lS J Y Y Y fun a J=> mv J Y Y fun a J=> J.splitD (t := 10) Y (fun h10 J=> ?_) (fun h10 J=> ?_)
 ·refine kz J Y Y Y Y Y Y fun a J=> kz J Y Y Y Y Y Y fun a J=> kz J Y Y Y Y Y Y fun a J=> pT J Y Y Y fun a J=> s0 ?_
  exact then_n (hK3' _ _ ⟨J.sub ⟨Y, (congrArg (fun z => some (Value.bool z)) (by first | exact (decide_eq_true (by omega)).symm | exact (decide_eq_false (by omega)).symm | exact decide_eq_decide.2 (by omega))), trivial⟩, G.sel [] Y Y⟩)
 refine my J Y Y Y Y fun a J=> sv' J (wy J Y Y Y) Y Y (R.len Tryz.underlying22 (J.ev Y)) fun a J=> sv' J (wy J Y Y Y) Y Y (R.gtr (J.ev Y) (J.ev Y)) fun a J=> pF J Y Y Y fun a J=> s0 ?_
 exact then_n (hK3' _ _ ⟨J.sub ⟨Y, (congrArg (fun z => some (Value.bool z)) (by first | exact (decide_eq_true (by omega)).symm | exact (decide_eq_false (by omega)).symm | exact decide_eq_decide.2 (by omega))), trivial⟩, G.sel [] Y Y⟩)
theorem rcheck_calls (A : Option Addr) (n c : Nat) (xs : List Nat) (w0 : World) (hA : Rd w0 A (byts xs)) (hn : xs.length = n) (hnc : n ≤ c) (hc : c ≤ 9223372036854775807) (hB : Byt xs) : Ret Tryz.prog 15 [.slice A n c] w0 [] (fun v s => v = chkV xs ∧ s = []) := by
  cases h : placesN xs with
  | none => exact rcheck_none A n c xs w0 hA hn hnc hc hB h
  | some l => exact rcheck_some A n c xs l w0 hA hn hnc hc hB h
set_option maxHeartbeats 1000000 in
theorem check_calls (A : Option Addr) (n c : Nat) (xs : List Nat) (w0 : World) (hA : Rd w0 A (byts xs)) (hn : xs.length = n) (hnc : n ≤ c) (hc : c ≤ 9223372036854775807) (hB : Byt xs) : Ret Tryz.prog 14 [.slice A n c] w0 [] (fun v s => v = chkV xs ∧ s = []) := by
 refine fn_start Tryz.func14 Y Tryz.ntmps14 Y [(0, .slice A n c)] ⟨Y, trivial⟩ ?_
 intro Q a hP J hR hN
 have G := St.start w0
 refine wp_seq_k fun K1 hK1=> wp_region_lit <| av J Y Y fun a J=> s0 <| then_n (hK1 _ _ <| wp_seq_k fun K2 hK2=> wp_seq_k fun K3 hK3=> ?_)
 have hK3' : ∀ a w, (Fr 64 [(0, .slice A n c), (15, .bool (decide (n = 0 ∨ 1024 < n)))] a ∧ St w0 [] [] w) → K3 a w := by
  rintro a w ⟨J, G⟩
  refine hK3 _ _ ?_
  refine cD J Y (fun c1=> ?_) (fun c1=> ?_)
  ·refine wp_seq_k fun K4 hK4=> wp_region_lit <| av J Y Y fun a J=> s0 <| then_n (hK4 _ _ <| wp_ret (then_r (hR _ _ _ _ _ J (run_results Tryz.results14 (.t J Y (.nil))) ?_)))
   exact ⟨_, [], Y, ⟨(chk_len (by omega)).symm, Y⟩, G.none⟩
  refine wp_skip <| then_n (hK2 _ _ <| wp_seq_k fun K5 hK5=> wp_region_lit <| so (wn Y) (O.alloc Y Y J ze59b Y G fun b3 a w J G=> ?_))
  refine s0 <| then_n (hK5 _ _ <| wp_seq_k fun K6 hK6=> wp_seq_k fun K7 hK7=> wp_region_lit <| av J Y Y fun a J=> s0 <| then_n (hK7 _ _ <| wp_block <| wp_loop_N (fun g a w=> ∃ (i : Nat) (l : List Nat), n - i = g ∧ Fr 64 [(0, .slice A n c), (3, .pointer (some ⟨b3, 0, none⟩)), (4, .int .i64 ((i : Nat) : Int))] a ∧ St w0 [] [[(b3, Cel (begs l) 106)]] w ∧ (i ≤ n) ∧ (plcs xs 0 = (plcs xs i).map (l ++ ·))) (n - 0) ?_ ?_))
  ·exact ⟨0, [], Y, J.sub ⟨Y, Y, Y, trivial⟩, G.sel [0] Y Y, by omega, by simp⟩
  rintro KL1 g a w ⟨i, l, hg1, J, G, hi, hp⟩ hKL1
  refine wp_seq_k fun K8 hK8=> wp_seq_k fun K9 hK9=> wp_region_lit <| mv J Y Y fun a J=> mv J Y Y fun a J=> sw J Y Y Y (R.len Tryz.underlying22 (J.ev Y)) fun a J=> lS J Y Y Y fun a J=> s0 <| then_n (hK9 _ _ <| cD J Y (fun c2=> ?_) (fun c2=> ?_))
  ·have hsz := sizeN_le xs i
   refine wp_skip <| then_n (hK8 _ _ <| wp_block <| wp_seq_k fun K10 hK10=> wp_region_lit <| mv J Y Y fun a J=> mv J Y Y fun a J=> so (wn Y) (O.call Y Y J ent31 (J.evs Y) G (size_calls A n c xs (i) w (hA.old G) hn hnc hc hB (by omega)) fun v s22 a w hR J G=> ?_))
   obtain ⟨rfl, rfl⟩ := hR
   refine av J Y Y fun a J=> s0 <| then_n (hK10 _ _ <| wp_seq_k fun K11 hK11=> wp_seq_k fun K12 hK12=> wp_region_lit <| mv J Y Y fun a J=> eL J Y Y Y fun a J=> s0 <| then_n (hK12 _ _ <| cD J Y (fun c3=> ?_) (fun c3=> ?_)))
   ·have hpl : placesN xs = none := by (have := hp; rw [plcs_bad (p := i) (by omega) (by omega)] at this; exact this)
    refine wp_seq_k fun K13 hK13=> wp_region_lit <| av J Y Y fun a J=> s0 <| then_n (hK13 _ _ <| wp_ret (then_r (blk_r (then_r (blk_r (then_r (hR _ _ _ _ _ J (run_results Tryz.results14 (.t J Y (.nil))) ?_)))))))
    exact ⟨_, [], Y, ⟨(chk_none hpl).symm, Y⟩, G.none⟩
   have hs : sizeN xs i ≠ 0 := by omega
   refine wp_skip <| then_n (hK11 _ _ <| wp_seq_k fun K14 hK14=> wp_region_lit <| mv J Y Y fun a J=> sw J Y Y Y (R.indexA Tryz.underlying106 sz4 (J.ev Y) (J.ev Y) (by omega) (by omega)) fun a J=> so (wn Y) (O.store sz4 (J.ev Y) (J.ev Y) Y Y G (.t .h) (begs_set (i := i) (by omega)) (by rw [length_begs]; omega) fun w G=> ?_))
   refine s0 <| then_n (hK14 _ _ <| wp_region_lit <| mv J Y Y fun a J=> mv J Y Y fun a J=> aI J Y Y Y (by omega) fun a J=> av J Y Y fun a J=> s0 <| blk_n <| then_n (hKL1 (n - (i + sizeN xs i)) _ _ ?_ ?_))
   ·omega
   exact ⟨i + sizeN xs i, l ++ [i], Y, J.sub ⟨Y, Y, (congrArg (fun z => some (Value.int .i64 z)) (by omega)), trivial⟩, G.sel [1] Y Y, by have := (sizeN_le xs i).resolve_left hs; omega, plcs_step (by omega) hs hp⟩
  have hpl : placesN xs = some l := by (have := hp; rw [plcs_end (p := i) (by omega)] at this; exact this.trans (by simp))
  refine wp_exit (then_x (then_x (blk_hit <| then_n (hK6 _ _ <| wp_seq_k fun K15 hK15=> wp_seq_k fun K16 hK16=> wp_region_lit <| av J Y Y fun a J=> s0 <| then_n (hK16 _ _ <| wp_block <| wp_loop_N (fun g a w=> ∃ (j : Nat) (m : List Nat) (r : List Nat), n - j = g ∧ Fr 64 [(0, .slice A n c), (3, .pointer (some ⟨b3, 0, none⟩)), (6, .int .i64 ((j : Nat) : Int))] a ∧ St w0 [] [[(b3, Cel (begs l) 106)]] w ∧ (j ≤ n) ∧ (plcs xs j = some r) ∧ (l = m ++ r) ∧ (m.all (okJ xs l) = true)) (n - 0) ?_ ?_)))))
  ·exact ⟨0, [], l, Y, J.sub ⟨Y, Y, Y, trivial⟩, G.sel [0] Y Y, by omega, hpl, Y, Y⟩
  rintro KL2 g a w ⟨j, m, r, hg2, J, G, hj, hr, hlr, hm⟩ hKL2
  refine wp_seq_k fun K17 hK17=> wp_seq_k fun K18 hK18=> wp_region_lit <| mv J Y Y fun a J=> mv J Y Y fun a J=> sw J Y Y Y (R.len Tryz.underlying22 (J.ev Y)) fun a J=> lS J Y Y Y fun a J=> s0 <| then_n (hK18 _ _ <| cD J Y (fun c4=> ?_) (fun c4=> ?_))
  ·obtain ⟨r', hs2, rfl, hr2⟩ := plcs_cons (by omega) hr
   have hb := cAt_lt hB j; have htl := targetN_lt hB j; have hsz := sizeN_le xs j
   refine wp_skip <| then_n (hK17 _ _ <| wp_seq_k fun K19 hK19=> ?_)
   have hK19' : ∀ a w, (Fr 64 [(0, .slice A n c), (3, .pointer (some ⟨b3, 0, none⟩)), (6, .int .i64 ((j : Nat) : Int))] a ∧ St w0 [] [[(b3, Cel (begs l) 106)]] w ∧ (okJ xs l j = true)) → K19 a w := by
    rintro a w ⟨J, G, hok⟩
    refine hK19 _ _ ?_
    refine wp_region_lit <| mv J Y Y fun a J=> mv J Y Y fun a J=> mv J Y Y fun a J=> so (wn Y) (O.call Y Y J ent31 (J.evs Y) G (size_calls A n c xs (j) w (hA.old G) hn hnc hc hB (by omega)) fun v s37 a w hR J G=> ?_)
    obtain ⟨rfl, rfl⟩ := hR
    refine aI J Y Y Y (by omega) fun a J=> av J Y Y fun a J=> s0 <| then_n (hKL2 (n - (j + sizeN xs j)) _ _ ?_ ?_)
    ·omega
    exact ⟨j + sizeN xs j, m ++ [j], r', Y, J.sub ⟨Y, Y, (congrArg (fun z => some (Value.int .i64 z)) (by omega)), trivial⟩, G.sel [1] Y Y, by have := (sizeN_le xs j).resolve_left hs2; omega, hr2, by rw [hlr]; simp, all_snoc hm hok⟩
   refine wp_block <| wp_seq_k fun K20 hK20=> wp_seq_k fun K21 hK21=> ?_
   have hK21' : ∀ a w, (Fr 64 [(0, .slice A n c), (3, .pointer (some ⟨b3, 0, none⟩)), (6, .int .i64 ((j : Nat) : Int)), (50, .bool (decide (cAt xs j ≠ 14 ∧ cAt xs j ≠ 15)))] a ∧ St w0 [] [[(b3, Cel (begs l) 106)]] w) → K21 a w := by
    rintro a w ⟨J, G⟩
    refine hK21 _ _ ?_
    refine cD J Y (fun c5=> ?_) (fun c5=> ?_)
    ·refine wp_exit (then_x (blk_hit ?_))
     exact then_n (hK19' _ _ ⟨J.sub ⟨Y, Y, Y, trivial⟩, G.sel [0] Y Y, okJ_n (by omega)⟩)
    refine wp_skip <| then_n (hK20 _ _ <| wp_seq_k fun K22 hK22=> wp_region_lit <| mv J Y Y fun a J=> mv J Y Y fun a J=> so (wn Y) (O.call Y Y J ent32 (J.evs Y) G (target_calls A n c xs j w (hA.old G) hn hnc hc hB (by have := (jump_size (xs := xs) (p := j) (by omega) hs2 (isJump_of (by omega))); omega)) fun v s53 a w hR J G=> ?_))
    obtain ⟨rfl, rfl⟩ := hR
    refine av J Y Y fun a J=> s0 <| then_n (hK22 _ _ <| wp_seq_k fun K23 hK23=> ?_)
    have hK23' : ∀ a w, (Fr 64 [(0, .slice A n c), (3, .pointer (some ⟨b3, 0, none⟩)), (6, .int .i64 ((j : Nat) : Int)), (63, .bool (!okJ xs l j))] a ∧ St w0 [] [[(b3, Cel (begs l) 106)]] w) → K23 a w := by
     rintro a w ⟨J, G⟩
     refine hK23 _ _ ?_
     refine cS J Y (fun c6=> ?_) (fun c6=> ?_)
     ·have hok : okJ xs l j = false := by simpa using c6
      refine wp_seq_k fun K24 hK24=> wp_region_lit <| av J Y Y fun a J=> s0 <| then_n (hK24 _ _ <| wp_ret (blk_r (then_r (then_r (blk_r (then_r (hR _ _ _ _ _ J (run_results Tryz.results14 (.t J Y (.nil))) ?_)))))))
      exact ⟨_, [], Y, ⟨(chk_bad hpl (by rw [hlr]; simp) hok).symm, Y⟩, G.none⟩
     have hok : okJ xs l j = true := by simpa using c6
     refine wp_skip <| blk_n ?_
     exact then_n (hK19' _ _ ⟨J.sub ⟨Y, Y, Y, trivial⟩, G.sel [0] Y Y, hok⟩)
    refine wp_region_lit <| mv J Y Y fun a J=> mv J Y Y fun a J=> sw J Y Y Y (R.len Tryz.underlying22 (J.ev Y)) fun a J=> sw J Y Y Y (R.geq (J.ev Y) (J.ev Y)) fun a J=> mv J Y Y fun a J=> J.splitD (t := 58) Y (fun h58 J=> ?_) (fun h58 J=> ?_)
    ·refine kz J Y Y Y Y Y Y fun a J=> kz J Y Y Y Y Y Y fun a J=> kz J Y Y Y Y Y Y fun a J=> kz J Y Y Y Y Y Y fun a J=> pT J Y Y Y fun a J=> s0 ?_
     exact then_n (hK23' _ _ ⟨J.sub ⟨Y, Y, Y, (by first | (rw [okJ_far (by omega) hpl (by omega)]; rfl) | (rw [okJ_j (by omega)]; rfl)), trivial⟩, G.sel [1] Y Y⟩)
    refine my J Y Y Y Y fun a J=> sv' J (wy J Y Y Y) Y Y (R.indexA Tryz.underlying106 sz4 (J.ev Y) (J.ev Y) (by omega) (by omega)) fun a J=> sv' J (wy J Y Y Y) Y Y (R.load one4 (J.ev Y) G (.t .h) (begs_at (j := targetN xs j) (by omega) (by omega))) fun a J=> ?_
    refine sv' J (wy J Y Y Y) Y Y ((by first | exact R.notD (J.ev Y) | exact R.not (J.ev Y))) fun a J=> ?_
    refine pF J Y Y Y fun a J=> s0 ?_
    exact then_n (hK23' _ _ ⟨J.sub ⟨Y, Y, Y, (by first | (rw [okJ_far (by omega) hpl (by omega)]; rfl) | (rw [okJ_j (by omega)]; rfl)), trivial⟩, G.sel [1] Y Y⟩)
   refine wp_region_lit <| mv J Y Y fun a J=> mv J Y Y fun a J=> sw J Y Y Y (R.indexO Tryz.underlying22 sz5 (J.ev Y) (Rd.ne hA (by rw [length_byts]; omega)) (J.ev Y) (by omega) (by omega)) fun a J=> sw J Y Y Y (R.loadO one5 (J.ev Y) (hA.old G) (cb_at (i := j) (by omega) (by omega))) fun a J=> sw J Y Y Y (R.neq (J.ev Y) (J.ev Y)) fun a J=> mv J Y Y fun a J=> J.splitD (t := 44) Y (fun h44 J=> ?_) (fun h44 J=> ?_)
   ·refine my J Y Y Y Y fun a J=> my J Y Y Y Y fun a J=> sv' J (wy J Y Y Y) Y Y (R.indexO Tryz.underlying22 sz5 (J.ev Y) (Rd.ne hA (by rw [length_byts]; omega)) (J.ev Y) (by omega) (by omega)) fun a J=> sv' J (wy J Y Y Y) Y Y (R.loadO one5 (J.ev Y) (hA.old G) (cb_at (i := j) (by omega) (by omega))) fun a J=> sv' J (wy J Y Y Y) Y Y (R.neq (J.ev Y) (J.ev Y)) fun a J=> pT J Y Y Y fun a J=> s0 ?_
    exact then_n (hK21' _ _ ⟨J.sub ⟨Y, Y, Y, (congrArg (fun z => some (Value.bool z)) (by first | exact (decide_eq_true (by omega)).symm | exact (decide_eq_false (by omega)).symm | exact decide_eq_decide.2 (by omega))), trivial⟩, G.sel [0] Y Y⟩)
   refine kz J Y Y Y Y Y Y fun a J=> kz J Y Y Y Y Y Y fun a J=> kz J Y Y Y Y Y Y fun a J=> kz J Y Y Y Y Y Y fun a J=> kz J Y Y Y Y Y Y fun a J=> pF J Y Y Y fun a J=> s0 ?_
   exact then_n (hK21' _ _ ⟨J.sub ⟨Y, Y, Y, (congrArg (fun z => some (Value.bool z)) (by first | exact (decide_eq_true (by omega)).symm | exact (decide_eq_false (by omega)).symm | exact decide_eq_decide.2 (by omega))), trivial⟩, G.sel [0] Y Y⟩)
  have hre : r = [] := by (rw [plcs_end (p := j) (by omega)] at hr; simpa using hr.symm)
  subst hre
  rw [List.append_nil] at hlr
  subst hlr
  refine wp_exit (then_x (then_x (blk_hit <| then_n (hK15 _ _ <| wp_seq_k fun K25 hK25=> wp_region_lit <| av J Y Y fun a J=> s0 <| then_n (hK25 _ _ <| wp_ret (hR _ _ _ _ _ J (run_results Tryz.results14 (.t J Y (.nil))) ?_))))))
  exact ⟨_, [], Y, ⟨(chk_ok (by omega) hpl hm).symm, Y⟩, G.none⟩
 refine wp_region_lit <| mv J Y Y fun a J=> sw J Y Y Y (R.len Tryz.underlying22 (J.ev Y)) fun a J=> eL J Y Y Y fun a J=> mv J Y Y fun a J=> J.splitD (t := 11) Y (fun h11 J=> ?_) (fun h11 J=> ?_)
 ·refine kz J Y Y Y Y Y Y fun a J=> kz J Y Y Y Y Y Y fun a J=> kz J Y Y Y Y Y Y fun a J=> pT J Y Y Y fun a J=> s0 ?_
  exact then_n (hK3' _ _ ⟨J.sub ⟨Y, (congrArg (fun z => some (Value.bool z)) (by first | exact (decide_eq_true (by omega)).symm | exact (decide_eq_false (by omega)).symm | exact decide_eq_decide.2 (by omega))), trivial⟩, G.sel [] Y Y⟩)
 refine my J Y Y Y Y fun a J=> sv' J (wy J Y Y Y) Y Y (R.len Tryz.underlying22 (J.ev Y)) fun a J=> sv' J (wy J Y Y Y) Y Y (R.gtr (J.ev Y) (J.ev Y)) fun a J=> pF J Y Y Y fun a J=> s0 ?_
 exact then_n (hK3' _ _ ⟨J.sub ⟨Y, (congrArg (fun z => some (Value.bool z)) (by first | exact (decide_eq_true (by omega)).symm | exact (decide_eq_false (by omega)).symm | exact decide_eq_decide.2 (by omega))), trivial⟩, G.sel [] Y Y⟩)
end Go.Proofs.YtlapmbkfmbkdoaaGreatDoor
end
section
namespace Go.Fw
open Go.RowKit Go.Proofs.YtlapmbkfmbkdoaaGreatDoor
def RdK (w : World) (ks : List Nat) (A : Option Addr) (cs : List Value) : Prop := Rd w A cs ∧ ∀ a, A = some a → cs ≠ [] → a.block ∉ ks
section
variable {w0 w w' : World} {ks ks' : List Nat} {bs bs' : List Seg} {s s1 s2 s' t : Seg} {A : Option Addr} {cs : List Value} {b off : Nat} {l : List Value} {E : TypeId}
theorem RdK.nil (w : World) (ks : List Nat) (A : Option Addr) : RdK w ks A [] := ⟨Rd.nil _ _, fun _ _ h => absurd rfl h⟩
theorem RdK.old (h : RdK w0 ks A cs) (hs : St w0 ks bs w) : Rd w A cs := by
  intro j v hj
  obtain ⟨a, ha, hc⟩ := h.1 j v hj
  refine ⟨a, ha, ?_⟩
  rw [World.cell?_of_block (w := w0)]
  · exact hc
  · refine hs.keep _ (lt_of_cell hc) ?_
    rw [add_block]
    exact h.2 a ha (by intro e; subst e; simp at hj)
theorem Rd.lt (h : Rd w A cs) {a : Addr} (ha : A = some a) (hne : cs ≠ []) : a.block < w.heap.size := by
  cases cs with
  | nil => exact absurd rfl hne
  | cons v r =>
    obtain ⟨a', ha', hc⟩ := h 0 v rfl
    rw [ha] at ha'
    simp only [Option.some.injEq] at ha'
    subst ha'
    have := lt_of_cell hc
    rwa [add_block] at this
theorem RdK.down (h : RdK w0 ks A cs) (hS : St w0 ks bs w) (hs : HasS bs s) : RdK w (s.map (·.1)) A cs := by
  refine ⟨h.old hS, fun a ha hne hm => ?_⟩
  obtain ⟨p, hp, e⟩ := List.mem_map.1 hm
  have hpf : p ∈ bs.flatten := List.mem_flatten.2 ⟨s, hs.mem, hp⟩
  rcases hS.place p hpf with h1 | h1
  · have := h.1.lt ha hne
    omega
  · exact h.2 a ha hne (e ▸ h1)
theorem RdK.nok (h : Rd w A cs) : RdK w [] A cs := ⟨h, fun _ _ _ => by simp⟩
theorem RdK.apart {o : Obj} (hS : St w0 ks [t, s] w) (hr : Rd w (some ⟨b, off, none⟩) cs) (hb : (b, o) ∈ t) : RdK w (s.map (·.1)) (some ⟨b, off, none⟩) cs := by
  refine ⟨hr, fun a ha _ hm => ?_⟩
  simp only [Option.some.injEq] at ha
  subst ha
  have hn := hS.nodup
  simp only [keys, List.flatten_cons, List.flatten_nil, List.append_nil, List.map_append] at hn
  exact (List.nodup_append.1 hn).2.2 _ (List.mem_map_of_mem hb) _ hm rfl
end
section
variable {P : Program} {ops : Array Oper} {Q : Exit → Act → World → Prop} {a : Act} {w w' w0 : World} {n : Nat} {env : Env} {d : Nat} {v z : Value} {K : Act → World → Prop}
variable {dst : Option Tmp} {ty : TypeId} {pos : String} {af : Array Edge} {g : Option (Nat × Bool)}
variable {ks : List Nat} {bs bs' : List Seg} {s : Seg}
theorem O.callV {f : FuncId} {fo : Operand} {xs : List Operand} {tys : Array TypeId} {vs : List Value} {R : Value → Seg → Prop} {bsf : Seg → List Seg} (hd : dst = some d) (hn : Nat.blt d n = true) (hF : Fr n env a)
    (hfo : a.eval fo = .func (.func f) #[] #[])
    (he : ∀ args w, (callFunc f args).run P w = .ok (.enter f args) w) (hx : xs.map a.eval = vs) (hS : St w0 ks bs w) (hC : Ret P f vs w (s.map (·.1)) R) (hr : ∀ s', RepB bs s s' (bsf s'))
    (h : ∀ v s' a' w', R v s' → Fr n ((d, v) :: env) a' → St w0 ks (bsf s') w' → K a' w') : Oper.wp P ⟨dst, .call ⟨.value fo, xs.toArray, tys⟩, ty, pos, af, g⟩ a w K Q := by
  subst hd
  have e : (execOp a.eval ⟨some d, .call ⟨.value fo, xs.toArray, tys⟩, ty, pos, af, g⟩).run P w = (callFunc f vs.toArray).run P w := by
    subst hx
    simp [execOp, resolve, Deferred.ofValue, hfo, invoke]
  unfold Oper.wp
  rw [e, he, Oper.upon_enter]
  refine Calls.mono hC ?_
  rintro e w' ⟨v, s', rfl, hR, hs⟩
  exact h v s' _ w' hR (hF.put hn v) (hS.compK (hr s') hs)
theorem O.callM {f : FuncId} {ro : Operand} {nm : String} {t : TypeId} {u u' : Value} {xs : List Operand} {tys : Array TypeId} {vs : List Value} {R : Value → Seg → Prop} {bsf : Seg → List Seg} (hd : dst = some d) (hn : Nat.blt d n = true) (hF : Fr n env a)
    (hro : a.eval ro = .iface t u) (hm : ∀ w, (method (P.types.size + Made.depth) t u nm).run P w = .ok (f, u') w)
    (he : ∀ args w, (callFunc f args).run P w = .ok (.enter f args) w) (hx : xs.map a.eval = vs) (hS : St w0 ks bs w) (hC : Ret P f (u' :: vs) w (s.map (·.1)) R) (hr : ∀ s', RepB bs s s' (bsf s'))
    (h : ∀ v s' a' w', R v s' → Fr n ((d, v) :: env) a' → St w0 ks (bsf s') w' → K a' w') : Oper.wp P ⟨dst, .call ⟨.invoke ro nm, xs.toArray, tys⟩, ty, pos, af, g⟩ a w K Q := by
  subst hd
  have e : (execOp a.eval ⟨some d, .call ⟨.invoke ro nm, xs.toArray, tys⟩, ty, pos, af, g⟩).run P w = (callFunc f (u' :: vs).toArray).run P w := by
    subst hx
    have e2 : List.take xs.length (List.map a.eval xs) = List.map a.eval xs := List.take_of_length_le (by simp)
    simp [execOp, resolve, hro, invoke, callMethod, Sem.run_bind, run_program, hm, e2]
  unfold Oper.wp
  rw [e, he, Oper.upon_enter]
  refine Calls.mono hC ?_
  rintro e w' ⟨v, s', rfl, hR, hs⟩
  exact h v s' _ w' hR (hF.put hn v) (hS.compK (hr s') hs)
theorem Ret.frame {f : FuncId} {vs : List Value} {s1 s2 : Seg} {R : Value → Seg → Prop} (ho : Own w (s1 ++ s2)) (h : Ret P f vs w (s1.map (·.1)) R) : Ret P f vs w ((s1 ++ s2).map (·.1)) fun v s' => ∃ s1', R v s1' ∧ s' = s1' ++ s2 := by
  refine Calls.mono h ?_
  rintro e w' ⟨v, s', rfl, hR, hs⟩
  have h1 : St w ((s1 ++ s2).map (·.1)) [s1, s2] w := (St.enter ho).flat (by simp)
  exact ⟨v, s' ++ s2, rfl, ⟨s', hR, rfl⟩, (h1.compK .h hs).flat (by simp)⟩
theorem Ret.mono {f : FuncId} {vs : List Value} {R R' : Value → Seg → Prop} (h : Ret P f vs w ks R) (hr : ∀ v s, R v s → R' v s) : Ret P f vs w ks R' := by
  refine Calls.mono h ?_
  rintro e w' ⟨v, s', he, hR, hs⟩
  exact ⟨v, s', he, hr _ _ hR, hs⟩
end
end Go.Fw
end
section
namespace Go.Fw
open Go.RowKit Go.Proofs.YtlapmbkfmbkdoaaGreatDoor
structure Fx where
  rb : Nat
  hb : Nat
  cA : Option Addr
  cc : Nat
  code : List Nat
  aA : Option Addr
  ac : Nat
  cl : Cl
  qA : Option Addr
  qc : Nat
  reps : List (Nat × Int)
  iA : Option Addr
  ic : Nat
  inner : List Nat
structure Vr where
  left : Nat
  p : Nat
  next : Nat
  ended : Bool
  value : Nat
def adc (f : Nat → Nat) : List Value := [.int .u8 ((f 0 : Nat) : Int), .int .u8 ((f 1 : Nat) : Int), .int .u8 ((f 2 : Nat) : Int), .int .u8 ((f 3 : Nat) : Int), .int .u8 ((f 4 : Nat) : Int), .int .u8 ((f 5 : Nat) : Int), .int .u8 ((f 6 : Nat) : Int), .int .u8 ((f 7 : Nat) : Int), .int .u8 ((f 8 : Nat) : Int), .int .u8 ((f 9 : Nat) : Int), .int .u8 ((f 10 : Nat) : Int), .int .u8 ((f 11 : Nat) : Int), .int .u8 ((f 12 : Nat) : Int), .int .u8 ((f 13 : Nat) : Int), .int .u8 ((f 14 : Nat) : Int), .int .u8 ((f 15 : Nat) : Int), .int .u8 ((f 16 : Nat) : Int), .int .u8 ((f 17 : Nat) : Int), .int .u8 ((f 18 : Nat) : Int), .int .u8 ((f 19 : Nat) : Int)]
def callc (F : Fx) : List Value := [.int .u8 ((F.cl.self 0 : Nat) : Int), .int .u8 ((F.cl.self 1 : Nat) : Int), .int .u8 ((F.cl.self 2 : Nat) : Int), .int .u8 ((F.cl.self 3 : Nat) : Int), .int .u8 ((F.cl.self 4 : Nat) : Int), .int .u8 ((F.cl.self 5 : Nat) : Int), .int .u8 ((F.cl.self 6 : Nat) : Int), .int .u8 ((F.cl.self 7 : Nat) : Int), .int .u8 ((F.cl.self 8 : Nat) : Int), .int .u8 ((F.cl.self 9 : Nat) : Int), .int .u8 ((F.cl.self 10 : Nat) : Int), .int .u8 ((F.cl.self 11 : Nat) : Int), .int .u8 ((F.cl.self 12 : Nat) : Int), .int .u8 ((F.cl.self 13 : Nat) : Int), .int .u8 ((F.cl.self 14 : Nat) : Int), .int .u8 ((F.cl.self 15 : Nat) : Int), .int .u8 ((F.cl.self 16 : Nat) : Int), .int .u8 ((F.cl.self 17 : Nat) : Int), .int .u8 ((F.cl.self 18 : Nat) : Int), .int .u8 ((F.cl.self 19 : Nat) : Int), .int .u8 ((F.cl.caller 0 : Nat) : Int), .int .u8 ((F.cl.caller 1 : Nat) : Int), .int .u8 ((F.cl.caller 2 : Nat) : Int), .int .u8 ((F.cl.caller 3 : Nat) : Int), .int .u8 ((F.cl.caller 4 : Nat) : Int), .int .u8 ((F.cl.caller 5 : Nat) : Int), .int .u8 ((F.cl.caller 6 : Nat) : Int), .int .u8 ((F.cl.caller 7 : Nat) : Int), .int .u8 ((F.cl.caller 8 : Nat) : Int), .int .u8 ((F.cl.caller 9 : Nat) : Int), .int .u8 ((F.cl.caller 10 : Nat) : Int), .int .u8 ((F.cl.caller 11 : Nat) : Int), .int .u8 ((F.cl.caller 12 : Nat) : Int), .int .u8 ((F.cl.caller 13 : Nat) : Int), .int .u8 ((F.cl.caller 14 : Nat) : Int), .int .u8 ((F.cl.caller 15 : Nat) : Int), .int .u8 ((F.cl.caller 16 : Nat) : Int), .int .u8 ((F.cl.caller 17 : Nat) : Int), .int .u8 ((F.cl.caller 18 : Nat) : Int), .int .u8 ((F.cl.caller 19 : Nat) : Int), .int .i64 F.cl.token, .int .u64 ((dg F.cl.amount 0 : Nat) : Int), .int .u64 ((dg F.cl.amount 1 : Nat) : Int), .int .u64 ((dg F.cl.amount 2 : Nat) : Int), .int .u64 ((dg F.cl.amount 3 : Nat) : Int), .slice F.aA F.cl.args.length F.ac, .int .i64 F.cl.time, .int .i64 F.cl.gas]
def rcells (F : Fx) (sv : Value) (V : Vr) : List Value := [.slice F.cA F.code.length F.cc, .int .u8 ((F.cl.self 0 : Nat) : Int), .int .u8 ((F.cl.self 1 : Nat) : Int), .int .u8 ((F.cl.self 2 : Nat) : Int), .int .u8 ((F.cl.self 3 : Nat) : Int), .int .u8 ((F.cl.self 4 : Nat) : Int), .int .u8 ((F.cl.self 5 : Nat) : Int), .int .u8 ((F.cl.self 6 : Nat) : Int), .int .u8 ((F.cl.self 7 : Nat) : Int), .int .u8 ((F.cl.self 8 : Nat) : Int), .int .u8 ((F.cl.self 9 : Nat) : Int), .int .u8 ((F.cl.self 10 : Nat) : Int), .int .u8 ((F.cl.self 11 : Nat) : Int), .int .u8 ((F.cl.self 12 : Nat) : Int), .int .u8 ((F.cl.self 13 : Nat) : Int), .int .u8 ((F.cl.self 14 : Nat) : Int), .int .u8 ((F.cl.self 15 : Nat) : Int), .int .u8 ((F.cl.self 16 : Nat) : Int), .int .u8 ((F.cl.self 17 : Nat) : Int), .int .u8 ((F.cl.self 18 : Nat) : Int), .int .u8 ((F.cl.self 19 : Nat) : Int), .int .u8 ((F.cl.caller 0 : Nat) : Int), .int .u8 ((F.cl.caller 1 : Nat) : Int), .int .u8 ((F.cl.caller 2 : Nat) : Int), .int .u8 ((F.cl.caller 3 : Nat) : Int), .int .u8 ((F.cl.caller 4 : Nat) : Int), .int .u8 ((F.cl.caller 5 : Nat) : Int), .int .u8 ((F.cl.caller 6 : Nat) : Int), .int .u8 ((F.cl.caller 7 : Nat) : Int), .int .u8 ((F.cl.caller 8 : Nat) : Int), .int .u8 ((F.cl.caller 9 : Nat) : Int), .int .u8 ((F.cl.caller 10 : Nat) : Int), .int .u8 ((F.cl.caller 11 : Nat) : Int), .int .u8 ((F.cl.caller 12 : Nat) : Int), .int .u8 ((F.cl.caller 13 : Nat) : Int), .int .u8 ((F.cl.caller 14 : Nat) : Int), .int .u8 ((F.cl.caller 15 : Nat) : Int), .int .u8 ((F.cl.caller 16 : Nat) : Int), .int .u8 ((F.cl.caller 17 : Nat) : Int), .int .u8 ((F.cl.caller 18 : Nat) : Int), .int .u8 ((F.cl.caller 19 : Nat) : Int), .int .i64 F.cl.token, .int .u64 ((dg F.cl.amount 0 : Nat) : Int), .int .u64 ((dg F.cl.amount 1 : Nat) : Int), .int .u64 ((dg F.cl.amount 2 : Nat) : Int), .int .u64 ((dg F.cl.amount 3 : Nat) : Int), .slice F.aA F.cl.args.length F.ac, .int .i64 F.cl.time, .int .i64 F.cl.gas, .iface 40 (.pointer (some ⟨F.hb, 0, none⟩)), sv, .int .i64 ((V.left : Nat) : Int), .int .i64 ((V.p : Nat) : Int), .int .i64 ((V.next : Nat) : Int), .bool V.ended, .int .u64 ((dg V.value 0 : Nat) : Int), .int .u64 ((dg V.value 1 : Nat) : Int), .int .u64 ((dg V.value 2 : Nat) : Int), .int .u64 ((dg V.value 3 : Nat) : Int)]
def RunS (F : Fx) (V : Vr) (stk : List Nat) (s : Seg) : Prop := ∃ A c sg, s = (F.rb, Cel (rcells F (.slice A stk.length c) V) 103) :: sg ∧ OwnS sg A stk.length c (stk.flatMap wc) 32 4
def adF (n : Nat) : Nat → Nat := fun i => n / 256 ^ (19 - i) % 256
def repc (r : Nat × Int) : List Value := wc r.1 ++ [.int .i64 r.2]
def askc (q : Ask) : List Value := [.int .i64 ((q.kind : Nat) : Int), .int .u64 ((dg q.a 0 : Nat) : Int), .int .u64 ((dg q.a 1 : Nat) : Int), .int .u64 ((dg q.a 2 : Nat) : Int), .int .u64 ((dg q.a 3 : Nat) : Int), .int .u64 ((dg q.b 0 : Nat) : Int), .int .u64 ((dg q.b 1 : Nat) : Int), .int .u64 ((dg q.b 2 : Nat) : Int), .int .u64 ((dg q.b 3 : Nat) : Int), .int .i64 ((q.token : Nat) : Int), .int .u8 ((adF q.who 0 : Nat) : Int), .int .u8 ((adF q.who 1 : Nat) : Int), .int .u8 ((adF q.who 2 : Nat) : Int), .int .u8 ((adF q.who 3 : Nat) : Int), .int .u8 ((adF q.who 4 : Nat) : Int), .int .u8 ((adF q.who 5 : Nat) : Int), .int .u8 ((adF q.who 6 : Nat) : Int), .int .u8 ((adF q.who 7 : Nat) : Int), .int .u8 ((adF q.who 8 : Nat) : Int), .int .u8 ((adF q.who 9 : Nat) : Int), .int .u8 ((adF q.who 10 : Nat) : Int), .int .u8 ((adF q.who 11 : Nat) : Int), .int .u8 ((adF q.who 12 : Nat) : Int), .int .u8 ((adF q.who 13 : Nat) : Int), .int .u8 ((adF q.who 14 : Nat) : Int), .int .u8 ((adF q.who 15 : Nat) : Int), .int .u8 ((adF q.who 16 : Nat) : Int), .int .u8 ((adF q.who 17 : Nat) : Int), .int .u8 ((adF q.who 18 : Nat) : Int), .int .u8 ((adF q.who 19 : Nat) : Int)]
def hcells (F : Fx) (sv : Value) : List Value := [.slice F.qA F.reps.length F.qc, sv, .slice F.iA F.inner.length F.ic]
def HostS (F : Fx) (asks : List Ask) (s : Seg) : Prop := ∃ A c sg, s = (F.hb, Cel (hcells F (.slice A asks.length c)) 43) :: sg ∧ OwnS sg A asks.length c (asks.flatMap askc) 92 30
structure Fx.Ok (F : Fx) : Prop where
  len : F.code.length ≤ 1024
  byt : Byt F.code
  cap : F.code.length ≤ F.cc
  cap2 : F.cc ≤ 9223372036854775807
  chk : chkN F.code = true
  call : callOk F.cl = true
  argsW : AllW F.cl.args
  acap : F.cl.args.length ≤ F.ac
  acap2 : F.ac ≤ 9223372036854775807
  self : ∀ i, F.cl.self i < 256
  caller : ∀ i, F.cl.caller i < 256
  amount : F.cl.amount < 115792089237316195423570985008687907853269984665640564039457584007913129639936
  reps : ∀ r ∈ F.reps, r.1 < 115792089237316195423570985008687907853269984665640564039457584007913129639936
  qlen : F.reps.length ≤ 9223372036854775807
structure Fx.Rds (F : Fx) (w : World) (ks : List Nat) : Prop where
  code : RdK w ks F.cA (byts F.code)
  args : RdK w ks F.aA (F.cl.args.flatMap wc)
  reps : RdK w ks F.qA (F.reps.flatMap repc)
  inner : RdK w ks F.iA (byts F.inner)
theorem Fx.Rds.down {F : Fx} {w0 w : World} {ks : List Nat} {bs : List Seg} {s : Seg} (h : F.Rds w0 ks) (hS : St w0 ks bs w) (hs : HasS bs s) : F.Rds w (s.map (·.1)) :=
  ⟨h.code.down hS hs, h.args.down hS hs, h.reps.down hS hs, h.inner.down hS hs⟩
section
variable {w0 w : World} {ks : List Nat} {bs : List Seg} {F : Fx} {V : Vr} {stk : List Nat} {s sg : Seg} {A : Option Addr} {c n : Nat}
theorem RunS.close (hS : St w0 ks [[(F.rb, Cel (rcells F (.slice A n c) V) 103)], sg] w) (hn : n = stk.length) (hO : OwnS sg A n c (stk.flatMap wc) 32 4) : ∃ s', RunS F V stk s' ∧ St w0 ks [s'] w := by
  subst hn
  exact ⟨_, ⟨A, c, sg, rfl, hO⟩, hS.flat (by simp)⟩
end
end Go.Fw
end
section
namespace Go.Fw
open Go.RowKit Go.Proofs.YtlapmbkfmbkdoaaGreatDoor
section
variable {P : Program} {ops : Array Oper} {Q : Exit → Act → World → Prop} {a : Act} {w w' w0 : World} {env : Env} {d N : Nat} {K : Act → World → Prop}
variable {ρ : Operand → Value} {dst : Option Tmp} {ty : TypeId} {pos : String} {af : Array Edge} {g : Option (Nat × Bool)} {x y z : Operand} {T E T1 T2 : TypeId}
variable {ks : List Nat} {bs bs' : List Seg} {b n sz c m c2 o p q : Nat} {l l' cs : List Value} {B A : Option Addr} {k k2 : IntKind}
theorem R.sliceArrLo (hT : P.underlying T = some (.array n E)) (hs : szT P E sz) (hx : ρ x = .pointer (some ⟨b, 0, none⟩)) (hy : ρ y = .int k ((p : Nat) : Int)) (h1 : p < n) :
    (execOp ρ ⟨dst, .slice T x (some y) none none, ty, pos, af, g⟩).run P w = .ok (.value (.slice (some ⟨b, p * sz, none⟩) (n - p) (n - p))) w := by
  have h0 : (0 : Int) ≤ (p : Int) := Int.natCast_nonneg p
  have h2 : (p : Int) ≤ (n : Int) := by omega
  have hne : ¬ n = p := by omega
  have e : (if n = p then (⟨b, 0, none⟩ : Addr) else (⟨b, 0, none⟩ : Addr).add (p * sz)) = ⟨b, p * sz, none⟩ := by rw [if_neg hne, addr_add, Nat.zero_add]
  simp only [execOp, hx, hy, Option.map_none, Option.map_some, Instr.sliceAt, Instr.sureAddr, run_underlying hT, Instr.sliceBounds, Instr.sliceBound, asIntOf, run_sizeOf' hs, h0, h2, and_self, if_true,
    Sem.run_bind, Sem.run_pure, Result.andThen_ok, Int.toNat_natCast, e]
theorem R.sliceMid (hT : P.underlying T = some (.slice E)) (hx : ρ x = .slice A n c) (hy : ρ y = .int k ((p : Nat) : Int)) (hz : ρ z = .int k2 ((q : Nat) : Int)) (h1 : p ≤ q) (h2 : q ≤ c) (hs : szT P E sz) :
    (execOp ρ ⟨dst, .slice T x (some y) (some z) none, ty, pos, af, g⟩).run P w = .ok (.value (.slice (if c = p then A else A.map (·.add (p * sz))) (q - p) (c - p))) w := by
  have h0 : (0 : Int) ≤ (p : Int) := Int.natCast_nonneg p
  have h3 : (0 : Int) ≤ (q : Int) := Int.natCast_nonneg q
  have h4 : (p : Int) ≤ (q : Int) := by omega
  have h5 : (q : Int) ≤ (c : Int) := by omega
  simp only [execOp, hx, hy, hz, Option.map_none, Option.map_some, Instr.sliceAt, Instr.slice, run_underlying hT, Instr.sliceBounds, Instr.sliceBound, asIntOf, run_sizeOf' hs, h0, h3, h4, h5, and_self, if_true,
    Sem.run_bind, Sem.run_pure, Result.andThen_ok, Int.toNat_natCast, Option.isSome_none, Bool.false_eq_true, if_false]
theorem O.copyAt (hd : dst = some d) (hn : Nat.blt d N = true) (hF : Fr N env a) (hT : P.underlying T1 = some (.slice E)) (hs : szT P E sz) (hx : a.eval x = .slice (some ⟨b, o, none⟩) n c) (hy : a.eval y = .slice B m c2)
    (hS : St w0 ks bs w) (hB : Rd w B cs) (hm : cs.length = m * sz) (hp : 0 < sz) (hv : ∀ v ∈ cs, v.oneCell' = true) {E2 : TypeId} (hu : UpB bs b (Cel l E2) (Cel l' E2) bs') (hl : spl l o (cs.take (min m n * sz)) = l') (hlt : o + min m n * sz ≤ l.length)
    (h : ∀ a' w', Fr N ((d, .int .i64 ((min m n : Nat) : Int)) :: env) a' → St w0 ks bs' w' → K a' w') :
    Oper.wp P ⟨dst, .call ⟨.builtin .copy, [x, y].toArray, [T1, T2].toArray⟩, ty, pos, af, g⟩ a w K Q := by
  subst hd
  have hb := hS.get hu.has
  have hlen : (cs.take (min m n * sz)).length = min m n * sz := by
    rw [List.length_take, hm]
    have : min m n * sz ≤ m * sz := Nat.mul_le_mul_right _ (Nat.min_le_left _ _)
    omega
  have hst := run_storeCells_Cel (P := P) (cs.take (min m n * sz)) o 0 w l hb (by omega) (fun v hv' => hv v (List.take_subset _ _ hv'))
  rw [Nat.add_zero, hl] at hst
  have hmin : Nat.min m n = min m n := rfl
  have key : (Builtin.firstCells sz (min m n) (.slice B m c2)).run P w = .ok (cs.take (min m n * sz)).toArray w := by
    cases B with
    | none =>
      have h0 : cs = [] := by
        cases cs with
        | nil => rfl
        | cons v r => obtain ⟨_, h1, _⟩ := hB 0 v rfl; simp at h1
      subst h0
      have hm0 : m = 0 := by
        rcases Nat.eq_zero_or_pos m with h | h
        · exact h
        · have : 0 < m * sz := Nat.mul_pos h hp
          simp at hm; omega
      simp [Builtin.firstCells, hm0]
    | some s =>
      have hld := run_loadCells_list (P := P) (w := w) s (cs.take (min m n * sz)) (fun j v hj => by
        obtain ⟨a', h1, h2⟩ := hB j v (by rw [List.getElem?_take] at hj; split at hj; exact hj; simp at hj)
        simp only [Option.some.injEq] at h1
        rw [h1]; exact h2)
      rw [hlen] at hld
      simp [Builtin.firstCells, hld]
  unfold Oper.wp
  have : (execOp a.eval ⟨some d, .call ⟨.builtin .copy, [x, y].toArray, [T1, T2].toArray⟩, ty, pos, af, g⟩).run P w = .ok (.value (.int .i64 ((min m n : Nat) : Int))) (World.setB w b (Cel l' E2)) := by
    simp [execOp, resolve, invoke, builtin, Builtin.copy_, hx, hy, run_underlying hT, Builtin.lenOf, run_sizeOf' hs, goInt, Sem.run_bind, Result.andThen_ok, hmin, key, hst]
  rw [this, Oper.upon_value]
  exact h _ _ (hF.put hn _) (hS.setB hu)
end
def vc (v : Nat → Nat) : List Value := wc (v 0) ++ wc (v 1) ++ wc (v 2)
theorem v0_at {v : Nat → Nat} {off : Nat} (ho : off = 0) : ∀ j u, (wc (v 0))[j]? = some u → (vc v)[off + j]? = some u := by
  subst ho
  intro j u hj
  rw [Nat.zero_add, vc, List.append_assoc, List.getElem?_append_left]
  · exact hj
  · rcases Nat.lt_or_ge j (wc (v 0)).length with h | h
    · exact h
    · rw [List.getElem?_eq_none h] at hj; simp at hj
theorem v1_at {v : Nat → Nat} {off : Nat} (ho : off = 4) : ∀ j u, (wc (v 1))[j]? = some u → (vc v)[off + j]? = some u := by
  subst ho
  intro j u hj
  rw [vc, List.append_assoc, List.getElem?_append_right (by simp), List.getElem?_append_left]
  · simpa using hj
  · rcases Nat.lt_or_ge j (wc (v 1)).length with h | h
    · simpa using h
    · rw [List.getElem?_eq_none h] at hj; simp at hj
theorem v2_at {v : Nat → Nat} {off : Nat} (ho : off = 8) : ∀ j u, (wc (v 2))[j]? = some u → (vc v)[off + j]? = some u := by
  subst ho
  intro j u hj
  rw [vc, List.getElem?_append_right (by simp)]
  simpa using hj
theorem byts_takeK (l : List Nat) (k : Nat) : (byts l).take k = byts (l.take k) := by simp [byts, List.map_take]
theorem byts_dropK (l : List Nat) (k : Nat) : (byts l).drop k = byts (l.drop k) := by simp [byts, List.map_drop]
theorem byts_app (l r : List Nat) : byts (l ++ r) = byts l ++ byts r := by simp [byts]
theorem adc_byts (f : Nat → Nat) : adc f = byts ((List.range 20).map f) := rfl
theorem numB_be (l : List Nat) : numB l = be l := by
  unfold numB be
  congr 1
  funext a d; omega
theorem be_zeros (k : Nat) (l : List Nat) : be (List.replicate k 0 ++ l) = be l := by
  rw [be_append]
  have : be (List.replicate k 0) = 0 := by
    induction k with
    | zero => rfl
    | succ k ih => rw [List.replicate_succ', be_snoc, ih]
  rw [this]; omega
theorem spl_end {l : List Nat} (h : l.length ≤ 32) : spl (byts (List.replicate 32 0)) (32 - l.length) (byts l) = byts (List.replicate (32 - l.length) 0 ++ l) := by
  rw [spl, byts_takeK, byts_dropK, length_byts, ← byts_app, ← byts_app]
  congr 1
  rw [List.take_replicate, List.drop_replicate, Nat.min_eq_left (by omega), show 32 - (32 - l.length + l.length) = 0 by omega]
  simp
end Go.Fw
end
section
namespace Go.Proofs.YtlapmbkfmbkdoaaGreatDoor
open Go Go.Fw Go.RowKit
attribute [local irreducible] Go.Oper.wp Go.Code.wp Go.wpList Go.Fw.WL Go.Calls
theorem own_push {s : Seg} {A : Option Addr} {c x : Nat} {b : List Nat} (h : OwnS s A (b.length + 1) c (b.flatMap wc ++ wc x) 32 4) : OwnS s A (b.length + 1) c ((b ++ [x]).flatMap wc) 32 4 := by
  rw [List.flatMap_append, List.flatMap_singleton]; exact h
theorem on_calls (F : Fx) (V : Vr) (stk : List Nat) (s : Seg) (x : Nat) (w0 : World) (hRun : RunS F V stk s) (ho : Own w0 s) (hl : stk.length ≤ 64) : Ret Tryz.prog 117 [.pointer (some ⟨F.rb, 0, none⟩), wv x] w0 (s.map (·.1)) (fun v s' => v = .int .i64 0 ∧ RunS F V (stk ++ [x]) s') := by
 refine fn_start Tryz.func117 Y Tryz.ntmps117 Y [(0, .pointer (some ⟨F.rb, 0, none⟩)), (1, wv x)] ⟨Y, Y, trivial⟩ ?_
 intro Q a hP J hR hN
 have G := St.enter ho
 obtain ⟨A, c, sg, hs, hO⟩ := hRun; have G := G.flat (bs' := [[(F.rb, Cel (rcells F (.slice A stk.length c) V) 103)], sg]) (by simp [hs])
 refine wp_seq_k fun K1 hK1=> wp_region_lit <| so (wn Y) (O.box Y Y J (J.ev Y) Y G fun b3 a w J G=> ?_)
 refine av J Y Y fun a J=> s0 <| then_n (hK1 _ _ <| wp_seq_k fun K2 hK2=> wp_drawG G (G.sel [0, 1] Y Y) [(0, 0), (1, 0), (2, 0), (3, 0), (4, 1), (5, 1), (6, 2), (7, 2), (8, 0), (9, 0), (10, 3)] mix (by kernel_rfl) (hP.then) fun w G hD=> ?_)
 refine dm J Y Y Y fun a J=> dm J Y Y Y fun a J=> dv J Y Y Y Y (fun w=> R.nilCheck (J.ev Y)) fun a J=> dv J Y Y Y Y (fun w=> R.fieldAddr (k := 50) Tryz.underlying103 Y nz33 (J.ev Y) Y) fun a J=> ds J Y Y Y Y hD (fun w hD=> R.load one33 (J.ev Y) hD (.t .h) (Y)) fun a J=> ?_
 refine ds J Y Y Y Y hD (fun w hD=> R.loadW agg32 (J.ev Y) hD .h sz32 (Y)) fun a J=> ?_
 refine dl Y (wn Y) (O.buildSlice (l := [_, _, _, _]) Y Y J Tryz.underlying33 inf32 Y Y (J.evp Y) (by decide) Y G fun b11 a w J G=> ⟨fun hD=> G.sel [1, 2] Y Y, ?_⟩)
 have hD := G.sel [1, 2] rfl rfl
 refine dl Y (wn Y) (O.append Y Y J Tryz.underlying33 inf32 Y Y (by decide) (J.ev Y) (J.ev Y) G hO (fun _=> (.t (.t (.t .h)))) (Rd.own0 G .h) (Y) (by simp [Value.oneCell']) (by unfold maxLen; omega) (by omega) fun A12 c12 s12 a w hO12 J G=> ⟨fun hD=> G.sel [1, 2] Y Y, ?_⟩)
 have hD := G.sel [1, 2] rfl rfl
 refine dv J Y Y Y Y (fun w=> R.nilCheck (J.ev Y)) fun a J=> dv J Y Y Y Y (fun w=> R.fieldAddr (k := 50) Tryz.underlying103 Y nz33 (J.ev Y) Y) fun a J=> ?_
 refine dw Y (wn Y) (O.store sz33 (J.ev Y) (J.ev Y) Y Y G (.t (.t .h)) (show List.set _ _ _ = rcells F (.slice A12 (stk.length + 1) c12) V from Y) (by first | decide | omega | (show _ < 59; decide) | (show _ < 3; decide) | simp) fun w G=> ?_)
 refine d0 <| then_n (hK2 _ _ <| wp_seq_k fun K3 hK3=> wp_region_lit <| av J Y Y fun a J=> s0 <| then_n (hK3 _ _ <| wp_ret (hR _ _ _ _ _ J (run_results Tryz.results117 (.t J Y (.nil))) ?_)))
 obtain ⟨s', h1, h2⟩ := RunS.close (F := F) (V := V) (stk := (stk ++ [x])) (G.sel [2, 3] rfl rfl) (by simp) (own_push hO12)
 exact ⟨_, s', Y, ⟨Y, h1⟩, h2⟩
end Go.Proofs.YtlapmbkfmbkdoaaGreatDoor
end
section
namespace Go.Proofs.YtlapmbkfmbkdoaaGreatDoor
open Go Go.Fw Go.RowKit
attribute [local irreducible] Go.Oper.wp Go.Code.wp Go.wpList Go.Fw.WL Go.Calls
theorem ze101b : zeT Tryz.prog 83 (.agg (byts (List.replicate 32 0)).toArray) := by unfold zeT; kernel_rfl
theorem adc_wb {n : Nat} : ∀ j v, (adc (adF n))[j]? = some v → (byts (wb n 32))[12 + j]? = some v := by
  intro j v hj
  rw [adc_byts] at hj
  by_cases h : j < 20
  · have e1 : (byts ((List.range 20).map (adF n)))[j]? = some (.int .u8 ((adF n j : Nat) : Int)) := by simp [byts, h]
    rw [e1] at hj
    have e2 : (byts (wb n 32))[12 + j]? = some (.int .u8 ((by8 n (31 - (12 + j)) : Nat) : Int)) := by
      rw [byts, List.getElem?_map, wb, List.getElem?_map, List.getElem?_range (by omega)]; rfl
    rw [e2, ← hj]
    congr 3
    unfold by8 adF
    rw [show 31 - (12 + j) = 19 - j by omega]
  · rw [List.getElem?_eq_none (by simp [byts]; omega)] at hj; simp at hj
theorem spl_who (f : Nat → Nat) : spl (byts (List.replicate 32 0)) (12 * 1) ((adc f).take (min 20 (32 - 12) * 1)) = byts (List.replicate 12 0 ++ (List.range 20).map f) := by
  have := spl_end (l := (List.range 20).map f) (by simp)
  rw [List.length_map, List.length_range] at this
  exact this
theorem one_adc (f : Nat → Nat) : ∀ v ∈ adc f, v.oneCell' = true := by
  intro v hv
  rw [adc_byts, byts] at hv
  obtain ⟨_, _, rfl⟩ := List.mem_map.1 hv
  rfl
theorem byt_pad {l : List Nat} (h : Byt l) (k : Nat) : Byt (List.replicate k 0 ++ l) := by
  intro d hd
  rcases List.mem_append.1 hd with h1 | h1
  · have := (List.mem_replicate.1 h1).2; omega
  · exact h _ h1
theorem byt_range {f : Nat → Nat} (h : ∀ i, f i < 256) (k : Nat) : Byt ((List.range k).map f) := by
  intro d hd
  obtain ⟨i, _, rfl⟩ := List.mem_map.1 hd
  exact h i
theorem read32_calls {b : Nat} (l : List Nat) (k : Nat) (w : World) (hA : Rd w (some ⟨b, 0, none⟩) (byts (List.replicate k 0 ++ l))) (hk : k + l.length = 32) (hB : Byt l) : Ret Tryz.prog 37 [.slice (some ⟨b, 0, none⟩) 32 32] w [] (fun v s => v = .tuple #[wv (numB l), .int .i64 0] ∧ s = []) := by
  have hl : (List.replicate k 0 ++ l).length = 32 := by simp [hk]
  have := read_calls (some ⟨b, 0, none⟩) 32 32 (List.replicate k 0 ++ l) w hA hl (byt_pad hB k)
  rw [readW, readN, if_pos hl, if_pos hl, be_zeros, ← numB_be] at this
  exact this
theorem numB_lt32 {l : List Nat} (h : l.length ≤ 32) (hB : Byt l) : numB l < 115792089237316195423570985008687907853269984665640564039457584007913129639936 := by
  have h1 := numB_lt l hB
  have h2 : (256 : Nat) ^ l.length ≤ 256 ^ 32 := Nat.pow_le_pow_right (by decide) h
  have h3 : (256 : Nat) ^ 32 = 115792089237316195423570985008687907853269984665640564039457584007913129639936 := by decide
  omega
theorem tok_dg {n : Nat} (h : n < 64) : dg n 0 = n := by rw [dg0]; omega
theorem cmp64 {n : Nat} : 0 ≤ cmpN n 64 ↔ ¬ n < 64 := by
  unfold cmpN; split
  · omega
  split <;> omega
theorem operand_calls (F : Fx) (V : Vr) (sv : Value) (w0 : World) (hr : Rd w0 (some ⟨F.rb, 0, none⟩) (rcells F sv V)) (hC : Rd w0 F.cA (byts F.code)) (hB : Byt F.code) (hn : F.code.length ≤ 1024) (hp : V.p + 1 < F.code.length) : Ret Tryz.prog 101 [.pointer (some ⟨F.rb, 0, none⟩)] w0 [] (fun v s => v = .int .i64 ((cAt F.code (V.p + 1) : Nat) : Int) ∧ s = []) := by
 refine fn_start Tryz.func101 Y Tryz.ntmps101 Y [(0, .pointer (some ⟨F.rb, 0, none⟩))] ⟨Y, trivial⟩ ?_
 intro Q a hP J hR hN
 have G := St.start w0
 have hb1 := cAt_lt hB (V.p + 1)
 refine wp_seq_k fun K1 hK1=> wp_region_lit <| av J Y Y fun a J=> s0 <| then_n (hK1 _ _ <| wp_seq_k fun K2 hK2=> wp_drawS G [(0, 0), (1, 0), (2, 0), (3, 1), (4, 0), (5, 0), (6, 0), (7, 1), (8, 0), (9, 0), (10, 1), (11, 0), (12, 0)] mix (by kernel_rfl) (hP.then) fun w G=> ?_)
 have hD := G
 refine dm J Y Y Y fun a J=> dv J Y Y Y Y (fun w=> R.nilCheck (J.ev Y)) fun a J=> dv J Y Y Y Y (fun w=> R.fieldAddr (k := 0) Tryz.underlying103 Y nz22 (J.ev Y) Y) fun a J=> ds J Y Y Y Y hD (fun w hD=> R.loadO (A := some ⟨F.rb, 0, none⟩) (k := 0) one22 (J.ev Y) (hr.old hD) Y) fun a J=> ?_
 refine dm J Y Y Y fun a J=> dv J Y Y Y Y (fun w=> R.nilCheck (J.ev Y)) fun a J=> dv J Y Y Y Y (fun w=> R.fieldAddr (k := 52) Tryz.underlying103 Y nz3 (J.ev Y) Y) fun a J=> ds J Y Y Y Y hD (fun w hD=> R.loadO (A := some ⟨F.rb, 0, none⟩) (k := 52) one3 (J.ev Y) (hr.old hD) Y) fun a J=> ?_
 refine dv J Y Y Y Y (fun w=> R.addI (J.ev Y) (J.ev Y) (by omega)) fun a J=> dv J Y Y Y Y (fun w=> R.indexO Tryz.underlying22 sz5 (J.ev Y) (Rd.ne hC (by rw [length_byts]; omega)) (J.ev Y) (by omega) (by omega)) fun a J=> ds J Y Y Y Y hD (fun w hD=> R.loadO one5 (J.ev Y) (hC.old hD) (cb_at (i := V.p + 1) (by omega) (by omega))) fun a J=> ?_
 refine dv J Y Y Y Y (fun w=> R.convI Tryz.underlying5 Tryz.underlying3 (J.ev Y) (by omega)) fun a J=> da J Y Y Y fun a J=> d0 <| then_n (hK2 _ _ <| wp_ret (hR _ _ _ _ _ J (run_results Tryz.results101 (.t J Y (.nil))) ?_))
 exact ⟨_, [], Y, ⟨Y, Y⟩, G.none⟩
theorem truth_calls (b : Bool) (w0 : World) : Ret Tryz.prog 123 [.bool b] w0 [] (fun v s => v = wv (bit1 b) ∧ s = []) := by
 refine fn_start Tryz.func123 Y Tryz.ntmps123 Y [(0, .bool b)] ⟨Y, trivial⟩ ?_
 intro Q a hP J hR hN
 have G := St.start w0
 refine wp_seq_k fun K1 hK1=> wp_region_lit <| so (wn Y) (O.alloc Y Y J ze32 Y G fun b2 a w J G=> ?_)
 refine s0 <| then_n (hK1 _ _ <| wp_seq_k fun K2 hK2=> wp_seq_k fun K3 hK3=> wp_region_lit <| mv J Y Y fun a J=> s0 <| then_n (hK3 _ _ <| cS J Y (fun c1=> ?_) (fun c1=> ?_)))
 ·refine wp_seq_k fun K4 hK4=> wp_region_lit <| so (wn Y) (O.call Y Y J ent116 (J.evs Y) G (of_calls 1 _ (by decide)) fun v s4 a w hR J G=> ?_)
  obtain ⟨rfl, rfl⟩ := hR
  refine so (wn Y) (O.storeW sz32 (J.ev Y) (J.ev Y) (Y) Y (by simp [Value.oneCell']) G (.t .h) (Y) fun w G=> ?_)
  refine s0 <| then_n (hK4 _ _ <| wp_ret (then_r (hR _ _ _ _ _ J (run_results Tryz.results123 (.cw J Y agg32 G (.t .h) sz32 (Y) (.nil))) ?_)))
  exact ⟨_, [], Y, ⟨by rw [c1]; rfl, Y⟩, G.none⟩
 refine wp_skip <| then_n (hK2 _ _ <| wp_seq_k fun K5 hK5=> wp_region_lit <| sw J Y Y Y (R.buildArr (l := [_, _, _, _]) Tryz.underlying32 ze32 sz30 (J.evp Y) Y) fun a J=> so (wn Y) (O.storeW sz32 (J.ev Y) (J.ev Y) (Y) Y (by simp [Value.oneCell']) G .h (Y) fun w G=> ?_))
 refine s0 <| then_n (hK5 _ _ <| wp_ret (hR _ _ _ _ _ J (run_results Tryz.results123 (.cw J Y agg32 G .h sz32 (Y) (.nil))) ?_))
 exact ⟨_, [], Y, ⟨by rw [c1]; rfl, Y⟩, G.none⟩
theorem tokenOf_calls (n : Nat) (w0 : World) (hn : n < 115792089237316195423570985008687907853269984665640564039457584007913129639936) : Ret Tryz.prog 126 [wv n] w0 [] (fun v s => v = (if n < 64 then .tuple #[.int .i64 ((n : Nat) : Int), .bool true] else .tuple #[.int .i64 0, .bool false]) ∧ s = []) := by
 refine fn_start Tryz.func126 Y Tryz.ntmps126 Y [(0, wv n)] ⟨Y, trivial⟩ ?_
 intro Q a hP J hR hN
 have G := St.start w0
 refine wp_seq_k fun K1 hK1=> wp_region_lit <| so (wn Y) (O.box Y Y J (J.ev Y) Y G fun b1 a w J G=> ?_)
 refine av J Y Y fun a J=> av J Y Y fun a J=> s0 <| then_n (hK1 _ _ <| wp_seq_k fun K2 hK2=> wp_seq_k fun K3 hK3=> wp_drawG G (G.sel [0] Y Y) [(0, 1), (1, 2), (2, 2), (3, 0)] mix (by kernel_rfl) (hP.then.then) fun w G hD=> ?_)
 refine ds J Y Y Y Y hD (fun w hD=> R.loadW agg32 (J.ev Y) hD .h sz32 (Y)) fun a J=> ?_
 refine dl Y (wn Y) (O.call Y Y J ent116 (J.evs Y) G (of_calls 64 _ (by decide)) fun v s5 a w hR J G=> ⟨fun hD=> G.sel [1] Y Y, ?_⟩)
 obtain ⟨rfl, rfl⟩ := hR
 have hD := G.sel [1] rfl rfl
 refine dl Y (wn Y) (O.call Y Y J ent115 (J.evs Y) G (cmp_calls n 64 _ hn (by decide)) fun v s6 a w hR J G=> ⟨fun hD=> G.sel [2] Y Y, ?_⟩)
 obtain ⟨rfl, rfl⟩ := hR
 have hD := G.sel [2] rfl rfl
 refine dv J Y Y Y Y (fun w=> R.geq (J.ev Y) (J.ev Y)) fun a J=> d0 <| then_n (hK3 _ _ <| cD J Y (fun c1=> ?_) (fun c1=> ?_))
 ·have h6 : ¬ n < 64 := cmp64.1 c1
  refine wp_seq_k fun K4 hK4=> wp_region_lit <| av J Y Y fun a J=> av J Y Y fun a J=> s0 <| then_n (hK4 _ _ <| wp_ret (then_r (hR _ _ _ _ _ J (run_results Tryz.results126 (.t J Y (.t J Y (.nil)))) ?_)))
  exact ⟨_, [], Y, ⟨by rw [if_neg h6]; rfl, Y⟩, G.none⟩
 have h6 : n < 64 := by (by_cases h : n < 64; exact h; exact absurd (cmp64.2 h) c1)
 refine wp_skip <| then_n (hK2 _ _ <| wp_seq_k fun K5 hK5=> wp_region_lit <| sw J Y Y Y (R.indexA Tryz.underlying32 sz30 (J.ev Y) (J.ev Y) (by omega) (by omega)) fun a J=> sw J Y Y Y (R.load one30 (J.ev Y) G (.t (.t .h)) (Y)) fun a J=> sw J Y Y Y (R.as (u := .int .i64 ((n : Nat) : Int)) (R.convI Tryz.underlying30 Tryz.underlying3 (J.ev Y) (by have := tok_dg h6; omega)) (congrArg (fun z : Nat=> Value.int .i64 (z : Int)) (tok_dg h6))) fun a J=> av J Y Y fun a J=> av J Y Y fun a J=> s0 <| then_n (hK5 _ _ <| wp_ret (hR _ _ _ _ _ J (run_results Tryz.results126 (.t J Y (.t J Y (.nil)))) ?_)))
 exact ⟨_, [], Y, ⟨by rw [if_pos h6]; rfl, Y⟩, G.none⟩
theorem address_calls (n : Nat) (w0 : World) : Ret Tryz.prog 127 [wv n] w0 [] (fun v s => v = .agg (adc (adF n)).toArray ∧ s = []) := by
 refine fn_start Tryz.func127 Y Tryz.ntmps127 Y [(0, wv n)] ⟨Y, trivial⟩ ?_
 intro Q a hP J hR hN
 have G := St.start w0
 refine wp_seq_k fun K1 hK1=> wp_region_lit <| so (wn Y) (O.box Y Y J (J.ev Y) Y G fun b1 a w J G=> ?_)
 refine so (wn Y) (O.alloc Y Y J ze29 Y G fun b2 a w J G=> ?_)
 refine s0 <| then_n (hK1 _ _ <| wp_seq_k fun K2 hK2=> wp_region_lit <| so (wn Y) (O.alloc Y Y J ze29 Y G fun b3 a w J G=> ?_))
 refine s0 <| then_n (hK2 _ _ <| wp_seq_k fun K3 hK3=> wp_region_lit <| sw J Y Y Y (R.loadW agg32 (J.ev Y) G (.t (.t .h)) sz32 (Y)) fun a J=> so (wn Y) (O.call Y Y J ent114 (J.evs Y) G (bytes32_calls n _) fun v s6 a w hR J G=> ?_))
 obtain ⟨b6, rfl, rfl⟩ := hR
 refine av J Y Y fun a J=> s0 <| then_n (hK3 _ _ <| wp_seq_k fun K4 hK4=> wp_seq_k fun K5 hK5=> wp_region_lit <| mv J Y Y fun a J=> sw J Y Y Y (R.len Tryz.underlying22 (J.ev Y)) fun a J=> eL J Y Y Y fun a J=> s0 <| then_n (hK5 _ _ <| cD J Y (fun c1=> ?_) (fun c1=> ?_)))
 ·refine wp_drawS G [(0, 0), (1, 0), (2, 0), (3, 3)] mix (by kernel_rfl) (hP.then) fun w G=> ?_
  have hD := G
  refine dv J Y Y Y Y (fun w=> R.sliceAll Tryz.underlying29 sz5 (J.ev Y)) fun a J=> dm J Y Y Y fun a J=> dv J Y Y Y Y (fun w=> R.as (u := .slice (some ⟨b6, 12, none⟩) 20 20) (R.sliceLo (p := 12) Tryz.underlying22 (J.ev Y) (J.ev Y) (by decide) sz5) (Y)) fun a J=> dw Y (wn Y) (O.copyAt (cs := adc (adF n)) Y Y J Tryz.underlying22 sz5 (J.ev Y) (J.ev Y) G (Rd.own G .h adc_wb) Y (by decide) (one_adc (adF n)) (.t .h) (show _ = adc (adF n) from Y) (by decide) fun a w J G=> ?_)
  refine d0 <| then_n (hK4 _ _ <| wp_seq_k fun K6 hK6=> wp_region_lit <| sw J Y Y Y (R.loadW agg29 (J.ev Y) G (.t .h) sz29 (Y)) fun a J=> so (wn Y) (O.storeW sz29 (J.ev Y) (J.ev Y) (Y) Y (one_adc (adF n)) G (.t (.t .h)) (Y) fun w G=> ?_))
  refine s0 <| then_n (hK6 _ _ <| wp_ret (hR _ _ _ _ _ J (run_results Tryz.results127 (.cw J Y agg29 G (.t (.t .h)) sz29 (Y) (.nil))) ?_))
  exact ⟨_, [], Y, ⟨Y, Y⟩, G.none⟩
 exact absurd Y c1
end Go.Proofs.YtlapmbkfmbkdoaaGreatDoor
end
section
namespace Go.Proofs.YtlapmbkfmbkdoaaGreatDoor
open Go Go.Fw Go.RowKit
attribute [local irreducible] Go.Oper.wp Go.Code.wp Go.wpList Go.Fw.WL Go.Calls
theorem count_calls (F : Fx) (V : Vr) (stk : List Nat) (s : Seg) (n : Nat) (w0 : World) (hRun : RunS F V stk s) (ho : Own w0 s) (hn : n ≤ 9223372036854775807) (hl : stk.length ≤ 64) : Ret Tryz.prog 124 [.pointer (some ⟨F.rb, 0, none⟩), .int .i64 ((n : Nat) : Int)] w0 (s.map (·.1)) (fun v s' => v = .int .i64 0 ∧ RunS F V (stk ++ [n]) s') := by
 refine fn_start Tryz.func124 Y Tryz.ntmps124 Y [(0, .pointer (some ⟨F.rb, 0, none⟩)), (1, .int .i64 ((n : Nat) : Int))] ⟨Y, Y, trivial⟩ ?_
 intro Q a hP J hR hN
 have G := St.enter ho
 refine wp_seq_k fun K1 hK1=> wp_region_lit <| av J Y Y fun a J=> s0 <| then_n (hK1 _ _ <| wp_seq_k fun K2 hK2=> wp_region_lit <| mv J Y Y fun a J=> mv J Y Y fun a J=> sw J Y Y Y (R.as (u := .int .u64 ((n : Nat) : Int)) (R.convU Tryz.underlying3 Tryz.underlying30 (J.ev Y)) (congrArg (fun z : Nat=> Value.int .u64 (z : Int)) (by omega))) fun a J=> so (wn Y) (O.call Y Y J ent116 (J.evs Y) G (of_calls n _ (by omega)) fun v s8 a w hR J G=> ?_))
 obtain ⟨rfl, rfl⟩ := hR
 refine so (wn Y) (O.callK Y Y J ent117 (J.evs Y) G (on_calls F V stk _ (n) _ hRun (G.own1 (.t .h)) (hl)) (fun _=> (.t .h)) fun v s9 a w hR J G=> ?_)
 obtain ⟨rfl, hRun2⟩ := hR
 refine av J Y Y fun a J=> s0 <| then_n (hK2 _ _ <| wp_ret (hR _ _ _ _ _ J (run_results Tryz.results124 (.t J Y (.nil))) ?_))
 exact ⟨_, s9, Y, ⟨Y, hRun2⟩, G.one (.t .h)⟩
theorem reckoned_good (F : Fx) (V : Vr) (stk : List Nat) (s : Seg) (n : Nat) (w0 : World) (hRun : RunS F V stk s) (ho : Own w0 s) (hn : n < 115792089237316195423570985008687907853269984665640564039457584007913129639936) (hl : stk.length ≤ 64) : Ret Tryz.prog 118 [.pointer (some ⟨F.rb, 0, none⟩), wv n, .int .i64 0] w0 (s.map (·.1)) (fun v s' => v = .int .i64 0 ∧ RunS F V (stk ++ [n]) s') := by
 refine fn_start Tryz.func118 Y Tryz.ntmps118 Y [(0, .pointer (some ⟨F.rb, 0, none⟩)), (1, wv n), (2, .int .i64 0)] ⟨Y, Y, Y, trivial⟩ ?_
 intro Q a hP J hR hN
 have G := St.enter ho
 refine wp_seq_k fun K1 hK1=> wp_region_lit <| so (wn Y) (O.box Y Y J (J.ev Y) Y G fun b4 a w J G=> ?_)
 refine av J Y Y fun a J=> s0 <| then_n (hK1 _ _ <| wp_seq_k fun K2 hK2=> wp_seq_k fun K3 hK3=> wp_region_lit <| mv J Y Y fun a J=> sw J Y Y Y (R.as (u := .bool false) (R.neq (p := 0) (q := 0) (J.ev Y) (J.ev Y)) (congrArg Value.bool (decide_eq_false (fun h=> h Y)))) fun a J=> s0 <| then_n (hK3 _ _ <| cF J Y <| wp_skip <| then_n (hK2 _ _ <| wp_seq_k fun K4 hK4=> wp_region_lit <| mv J Y Y fun a J=> sw J Y Y Y (R.loadW agg32 (J.ev Y) G .h sz32 (Y)) fun a J=> so (wn Y) (O.callK Y Y J ent117 (J.evs Y) G (on_calls F V stk _ (n) _ hRun (G.own1 (.t .h)) (hl)) (fun _=> (.t .h)) fun v s11 a w hR J G=> ?_))))
 obtain ⟨rfl, hRun2⟩ := hR
 refine av J Y Y fun a J=> s0 <| then_n (hK4 _ _ <| wp_ret (hR _ _ _ _ _ J (run_results Tryz.results118 (.t J Y (.nil))) ?_))
 exact ⟨_, s11, Y, ⟨Y, hRun2⟩, G.one (.t .h)⟩
theorem reckoned_bad (F : Fx) (s : Seg) (n : Nat) (e : Int) (w0 : World) (ho : Own w0 s) (he : ¬ e = 0) : Ret Tryz.prog 118 [.pointer (some ⟨F.rb, 0, none⟩), wv n, .int .i64 e] w0 (s.map (·.1)) (fun v s' => v = .int .i64 104 ∧ s' = s) := by
 refine fn_start Tryz.func118 Y Tryz.ntmps118 Y [(0, .pointer (some ⟨F.rb, 0, none⟩)), (1, wv n), (2, .int .i64 e)] ⟨Y, Y, Y, trivial⟩ ?_
 intro Q a hP J hR hN
 have G := St.enter ho
 refine wp_seq_k fun K1 hK1=> wp_region_lit <| so (wn Y) (O.box Y Y J (J.ev Y) Y G fun b4 a w J G=> ?_)
 refine av J Y Y fun a J=> s0 <| then_n (hK1 _ _ <| wp_seq_k fun K2 hK2=> wp_seq_k fun K3 hK3=> wp_region_lit <| mv J Y Y fun a J=> sw J Y Y Y (R.as (u := .bool true) (R.neq (p := e) (q := 0) (J.ev Y) (J.ev Y)) (congrArg Value.bool (decide_eq_true he))) fun a J=> s0 <| then_n (hK3 _ _ <| cT J Y <| wp_seq_k fun K4 hK4=> wp_region_lit <| av J Y Y fun a J=> s0 <| then_n (hK4 _ _ <| wp_ret (then_r (hR _ _ _ _ _ J (run_results Tryz.results118 (.t J Y (.nil))) ?_)))))
 exact ⟨_, s, Y, ⟨Y, Y⟩, (G.sel [1] Y Y)⟩
theorem who_calls (F : Fx) (V : Vr) (stk : List Nat) (s : Seg) (f : Nat → Nat) (w0 : World) (hRun : RunS F V stk s) (ho : Own w0 s) (hf : ∀ i, f i < 256) (hl : stk.length ≤ 64) : Ret Tryz.prog 125 [.pointer (some ⟨F.rb, 0, none⟩), .agg (adc f).toArray] w0 (s.map (·.1)) (fun v s' => v = .int .i64 0 ∧ RunS F V (stk ++ [adN f]) s') := by
 refine fn_start Tryz.func125 Y Tryz.ntmps125 Y [(0, .pointer (some ⟨F.rb, 0, none⟩)), (1, .agg (adc f).toArray)] ⟨Y, Y, trivial⟩ ?_
 intro Q a hP J hR hN
 have G := St.enter ho
 refine wp_seq_k fun K1 hK1=> wp_region_lit <| so (wn Y) (O.box Y Y J (J.ev Y) Y G fun b3 a w J G=> ?_)
 refine av J Y Y fun a J=> s0 <| then_n (hK1 _ _ <| wp_seq_k fun K2 hK2=> wp_region_lit <| so (wn Y) (O.alloc Y Y J ze101b Y G fun b5 a w J G=> ?_))
 refine s0 <| then_n (hK2 _ _ <| wp_seq_k fun K3 hK3=> wp_drawS G [(0, 0), (1, 0), (2, 3)] mix (by kernel_rfl) (hP.then) fun w G=> ?_)
 have hD := G
 refine dv J Y Y Y Y (fun w=> R.sliceArrLo (p := 12) Tryz.underlying83 sz5 (J.ev Y) (J.ev Y) (by decide)) fun a J=> dv J Y Y Y Y (fun w=> R.sliceAll Tryz.underlying29 sz5 (J.ev Y)) fun a J=> dw Y (wn Y) (O.copyAt (cs := adc f) Y Y J Tryz.underlying22 sz5 (J.ev Y) (J.ev Y) G (Rd.own0 G (.t .h)) Y (by decide) (one_adc f) .h (spl_who f) (by show _ ≤ 32; decide) fun a w J G=> ?_)
 refine d0 <| then_n (hK3 _ _ <| wp_seq_k fun K4 hK4=> wp_region_lit <| sw J Y Y Y (R.sliceAll Tryz.underlying83 sz5 (J.ev Y)) fun a J=> so (wn Y) (O.call Y Y J ent37 (J.evs Y) G (read32_calls ((List.range 20).map f) 12 _ (Rd.own0 G .h) (by simp) (byt_range hf 20)) fun v s13 a w hR J G=> ?_))
 obtain ⟨rfl, rfl⟩ := hR
 refine mv J Y Y fun a J=> xv J Y Y Y fun a J=> xv J Y Y Y fun a J=> so (wn Y) (O.alloc Y Y J ze32 Y G fun b6 a w J G=> ?_)
 refine so (wn Y) (O.storeW sz32 (J.ev Y) (J.ev Y) (Y) Y (by simp [Value.oneCell']) G .h (Y) fun w G=> ?_)
 refine av J Y Y fun a J=> s0 <| then_n (hK4 _ _ <| wp_seq_k fun K5 hK5=> wp_seq_k fun K6 hK6=> wp_region_lit <| mv J Y Y fun a J=> sw J Y Y Y (R.as (u := .bool false) (R.neq (p := 0) (q := 0) (J.ev Y) (J.ev Y)) (Y)) fun a J=> s0 <| then_n (hK6 _ _ <| cF J Y <| wp_skip <| then_n (hK5 _ _ <| wp_seq_k fun K7 hK7=> wp_region_lit <| mv J Y Y fun a J=> sw J Y Y Y (R.loadW agg32 (J.ev Y) G .h sz32 (Y)) fun a J=> so (wn Y) (O.callK Y Y J ent117 (J.evs Y) G (on_calls F V stk _ (adN f) _ hRun (G.own1 (.t (.t (.t (.t .h))))) (hl)) (fun _=> (.t (.t (.t (.t .h))))) fun v s21 a w hR J G=> ?_))))
 obtain ⟨rfl, hRun2⟩ := hR
 refine av J Y Y fun a J=> s0 <| then_n (hK7 _ _ <| wp_ret (hR _ _ _ _ _ J (run_results Tryz.results125 (.t J Y (.nil))) ?_))
 exact ⟨_, s21, Y, ⟨Y, hRun2⟩, G.one (.t (.t (.t (.t .h))))⟩
end Go.Proofs.YtlapmbkfmbkdoaaGreatDoor
end
section
namespace Go.Proofs.YtlapmbkfmbkdoaaGreatDoor
open Go Go.Fw Go.RowKit
attribute [local irreducible] Go.Oper.wp Go.Code.wp Go.wpList Go.Fw.WL Go.Calls
theorem cmp_lt {x y : Nat} : decide (cmpN x y < 0) = decide (x < y) := by
  unfold cmpN
  apply decide_eq_decide.2
  split
  · omega
  split <;> omega
theorem add_good (F : Fx) (V : Vr) (stk : List Nat) (s : Seg) (vb : Nat) (u : Nat → Nat) (w0 : World) (hRun : RunS F V stk s) (ho : Own w0 s) (hv : RdK w0 (s.map (·.1)) (some ⟨vb, 0, none⟩) (vc u)) (hvM : ∀ i, u i < 115792089237316195423570985008687907853269984665640564039457584007913129639936) (hl : stk.length ≤ 64) (h : (u 0 + u 1 < 115792089237316195423570985008687907853269984665640564039457584007913129639936)) : Ret Tryz.prog 69 [.pointer (some ⟨F.rb, 0, none⟩), .slice (some ⟨vb, 0, none⟩) 2 3] w0 (s.map (·.1)) (fun v s' => v = .int .i64 0 ∧ RunS F V (stk ++ [u 0 + u 1]) s') := by
 refine fn_start Tryz.func69 Y Tryz.ntmps69 Y [(0, .pointer (some ⟨F.rb, 0, none⟩)), (1, .slice (some ⟨vb, 0, none⟩) 2 3)] ⟨Y, Y, trivial⟩ ?_
 intro Q a hP J hR hN
 have G := St.enter ho
 refine wp_seq_k fun K1 hK1=> wp_region_lit <| av J Y Y fun a J=> s0 <| then_n (hK1 _ _ <| wp_seq_k fun K2 hK2=> wp_drawG G (G.sel [] Y Y) [(0, 0), (1, 0), (2, 0), (3, 1), (4, 0), (5, 0), (6, 1), (7, 2), (8, 0), (9, 0), (10, 2), (11, 0)] mix (by kernel_rfl) (hP.then) fun w G hD=> ?_)
 refine dm J Y Y Y fun a J=> dm J Y Y Y fun a J=> dv J Y Y Y Y (fun w=> R.indexO Tryz.underlying33 sz32 (J.ev Y) (by simp) (J.ev Y) (by omega) (by omega)) fun a J=> ds J Y Y Y Y hD (fun w hD=> R.loadAO (cs := wc (u 0)) agg32 (J.ev Y) (hv.old hD) sz32 Y (Nat.succ_pos _) (v0_at Y)) fun a J=> ?_
 refine dm J Y Y Y fun a J=> dv J Y Y Y Y (fun w=> R.indexO Tryz.underlying33 sz32 (J.ev Y) (by simp) (J.ev Y) (by omega) (by omega)) fun a J=> ds J Y Y Y Y hD (fun w hD=> R.loadAO (cs := wc (u 1)) agg32 (J.ev Y) (hv.old hD) sz32 Y (Nat.succ_pos _) (v1_at Y)) fun a J=> ?_
 refine dl Y (wn Y) (O.call Y Y J ent119 (J.evs Y) G (add_calls (u 0) (u 1) _ (hvM 0) (hvM 1)) fun v s12 a w hR J G=> ⟨fun hD=> G.sel [] Y Y, ?_⟩)
 obtain ⟨rfl, rfl⟩ := hR
 have hD := G.sel [] rfl rfl
 rw [show addW (u 0) (u 1) = .tuple #[wv (u 0 + u 1), .int .i64 0] from by simp only [addW, if_pos h]] at J
 refine dx J Y Y Y Y fun a J=> dx J Y Y Y Y fun a J=> dl Y (wn Y) (O.callK Y Y J ent118 (J.evs Y) G (reckoned_good F V stk _ (u 0 + u 1) _ hRun (G.own1 (.t .h)) (by have := hvM 0; have := hvM 1; first | omega | exact Nat.lt_of_le_of_lt (Nat.div_le_self _ _) (hvM 0) | exact Nat.lt_of_le_of_lt (Nat.mod_le _ _) (hvM 0)) hl) (fun _=> (.t .h)) fun v s15 a w hR J G=> ⟨fun hD=> G.sel [] Y Y, ?_⟩)
 obtain ⟨rfl, hRun2⟩ := hR
 have hD := G.sel [] rfl rfl
 refine da J Y Y Y fun a J=> d0 <| then_n (hK2 _ _ <| wp_ret (hR _ _ _ _ _ J (run_results Tryz.results69 (.t J Y (.nil))) ?_))
 exact ⟨_, s15, Y, ⟨Y, hRun2⟩, G.one (.t .h)⟩
theorem add_bad (F : Fx) (V : Vr) (stk : List Nat) (s : Seg) (vb : Nat) (u : Nat → Nat) (w0 : World) (hRun : RunS F V stk s) (ho : Own w0 s) (hv : RdK w0 (s.map (·.1)) (some ⟨vb, 0, none⟩) (vc u)) (hvM : ∀ i, u i < 115792089237316195423570985008687907853269984665640564039457584007913129639936) (hl : stk.length ≤ 64) (h : ¬ (u 0 + u 1 < 115792089237316195423570985008687907853269984665640564039457584007913129639936)) : Ret Tryz.prog 69 [.pointer (some ⟨F.rb, 0, none⟩), .slice (some ⟨vb, 0, none⟩) 2 3] w0 (s.map (·.1)) (fun v s' => v = .int .i64 104 ∧ s' = s) := by
 refine fn_start Tryz.func69 Y Tryz.ntmps69 Y [(0, .pointer (some ⟨F.rb, 0, none⟩)), (1, .slice (some ⟨vb, 0, none⟩) 2 3)] ⟨Y, Y, trivial⟩ ?_
 intro Q a hP J hR hN
 have G := St.enter ho
 refine wp_seq_k fun K1 hK1=> wp_region_lit <| av J Y Y fun a J=> s0 <| then_n (hK1 _ _ <| wp_seq_k fun K2 hK2=> wp_drawG G (G.sel [] Y Y) [(0, 0), (1, 0), (2, 0), (3, 1), (4, 0), (5, 0), (6, 1), (7, 2), (8, 0), (9, 0), (10, 2), (11, 0)] mix (by kernel_rfl) (hP.then) fun w G hD=> ?_)
 refine dm J Y Y Y fun a J=> dm J Y Y Y fun a J=> dv J Y Y Y Y (fun w=> R.indexO Tryz.underlying33 sz32 (J.ev Y) (by simp) (J.ev Y) (by omega) (by omega)) fun a J=> ds J Y Y Y Y hD (fun w hD=> R.loadAO (cs := wc (u 0)) agg32 (J.ev Y) (hv.old hD) sz32 Y (Nat.succ_pos _) (v0_at Y)) fun a J=> ?_
 refine dm J Y Y Y fun a J=> dv J Y Y Y Y (fun w=> R.indexO Tryz.underlying33 sz32 (J.ev Y) (by simp) (J.ev Y) (by omega) (by omega)) fun a J=> ds J Y Y Y Y hD (fun w hD=> R.loadAO (cs := wc (u 1)) agg32 (J.ev Y) (hv.old hD) sz32 Y (Nat.succ_pos _) (v1_at Y)) fun a J=> ?_
 refine dl Y (wn Y) (O.call Y Y J ent119 (J.evs Y) G (add_calls (u 0) (u 1) _ (hvM 0) (hvM 1)) fun v s12 a w hR J G=> ⟨fun hD=> G.sel [] Y Y, ?_⟩)
 obtain ⟨rfl, rfl⟩ := hR
 have hD := G.sel [] rfl rfl
 rw [show addW (u 0) (u 1) = .tuple #[wv (0), .int .i64 22] from by simp only [addW, if_neg h]] at J
 refine dx J Y Y Y Y fun a J=> dx J Y Y Y Y fun a J=> dl Y (wn Y) (O.callK Y Y J ent118 (J.evs Y) G (reckoned_bad F _ (0) _ _ (G.own1 (.t .h)) (by decide)) (fun _=> (.t .h)) fun v s15 a w hR J G=> ⟨fun hD=> G.sel [] Y Y, ?_⟩)
 obtain ⟨rfl, he⟩ := hR
 rw [he] at G
 have hD := G.sel [] rfl rfl
 refine da J Y Y Y fun a J=> d0 <| then_n (hK2 _ _ <| wp_ret (hR _ _ _ _ _ J (run_results Tryz.results69 (.t J Y (.nil))) ?_))
 exact ⟨_, s, Y, ⟨Y, Y⟩, G.one (.t .h)⟩
theorem sub_good (F : Fx) (V : Vr) (stk : List Nat) (s : Seg) (vb : Nat) (u : Nat → Nat) (w0 : World) (hRun : RunS F V stk s) (ho : Own w0 s) (hv : RdK w0 (s.map (·.1)) (some ⟨vb, 0, none⟩) (vc u)) (hvM : ∀ i, u i < 115792089237316195423570985008687907853269984665640564039457584007913129639936) (hl : stk.length ≤ 64) (h : (u 1 ≤ u 0)) : Ret Tryz.prog 70 [.pointer (some ⟨F.rb, 0, none⟩), .slice (some ⟨vb, 0, none⟩) 2 3] w0 (s.map (·.1)) (fun v s' => v = .int .i64 0 ∧ RunS F V (stk ++ [u 0 - u 1]) s') := by
 refine fn_start Tryz.func70 Y Tryz.ntmps70 Y [(0, .pointer (some ⟨F.rb, 0, none⟩)), (1, .slice (some ⟨vb, 0, none⟩) 2 3)] ⟨Y, Y, trivial⟩ ?_
 intro Q a hP J hR hN
 have G := St.enter ho
 refine wp_seq_k fun K1 hK1=> wp_region_lit <| av J Y Y fun a J=> s0 <| then_n (hK1 _ _ <| wp_seq_k fun K2 hK2=> wp_drawG G (G.sel [] Y Y) [(0, 0), (1, 0), (2, 0), (3, 1), (4, 0), (5, 0), (6, 1), (7, 2), (8, 0), (9, 0), (10, 2), (11, 0)] mix (by kernel_rfl) (hP.then) fun w G hD=> ?_)
 refine dm J Y Y Y fun a J=> dm J Y Y Y fun a J=> dv J Y Y Y Y (fun w=> R.indexO Tryz.underlying33 sz32 (J.ev Y) (by simp) (J.ev Y) (by omega) (by omega)) fun a J=> ds J Y Y Y Y hD (fun w hD=> R.loadAO (cs := wc (u 0)) agg32 (J.ev Y) (hv.old hD) sz32 Y (Nat.succ_pos _) (v0_at Y)) fun a J=> ?_
 refine dm J Y Y Y fun a J=> dv J Y Y Y Y (fun w=> R.indexO Tryz.underlying33 sz32 (J.ev Y) (by simp) (J.ev Y) (by omega) (by omega)) fun a J=> ds J Y Y Y Y hD (fun w hD=> R.loadAO (cs := wc (u 1)) agg32 (J.ev Y) (hv.old hD) sz32 Y (Nat.succ_pos _) (v1_at Y)) fun a J=> ?_
 refine dl Y (wn Y) (O.call Y Y J ent120 (J.evs Y) G (sub_calls (u 0) (u 1) _ (hvM 0) (hvM 1)) fun v s12 a w hR J G=> ⟨fun hD=> G.sel [] Y Y, ?_⟩)
 obtain ⟨rfl, rfl⟩ := hR
 have hD := G.sel [] rfl rfl
 rw [show subW (u 0) (u 1) = .tuple #[wv (u 0 - u 1), .int .i64 0] from by simp only [subW, if_pos h]] at J
 refine dx J Y Y Y Y fun a J=> dx J Y Y Y Y fun a J=> dl Y (wn Y) (O.callK Y Y J ent118 (J.evs Y) G (reckoned_good F V stk _ (u 0 - u 1) _ hRun (G.own1 (.t .h)) (by have := hvM 0; have := hvM 1; first | omega | exact Nat.lt_of_le_of_lt (Nat.div_le_self _ _) (hvM 0) | exact Nat.lt_of_le_of_lt (Nat.mod_le _ _) (hvM 0)) hl) (fun _=> (.t .h)) fun v s15 a w hR J G=> ⟨fun hD=> G.sel [] Y Y, ?_⟩)
 obtain ⟨rfl, hRun2⟩ := hR
 have hD := G.sel [] rfl rfl
 refine da J Y Y Y fun a J=> d0 <| then_n (hK2 _ _ <| wp_ret (hR _ _ _ _ _ J (run_results Tryz.results70 (.t J Y (.nil))) ?_))
 exact ⟨_, s15, Y, ⟨Y, hRun2⟩, G.one (.t .h)⟩
theorem sub_bad (F : Fx) (V : Vr) (stk : List Nat) (s : Seg) (vb : Nat) (u : Nat → Nat) (w0 : World) (hRun : RunS F V stk s) (ho : Own w0 s) (hv : RdK w0 (s.map (·.1)) (some ⟨vb, 0, none⟩) (vc u)) (hvM : ∀ i, u i < 115792089237316195423570985008687907853269984665640564039457584007913129639936) (hl : stk.length ≤ 64) (h : ¬ (u 1 ≤ u 0)) : Ret Tryz.prog 70 [.pointer (some ⟨F.rb, 0, none⟩), .slice (some ⟨vb, 0, none⟩) 2 3] w0 (s.map (·.1)) (fun v s' => v = .int .i64 104 ∧ s' = s) := by
 refine fn_start Tryz.func70 Y Tryz.ntmps70 Y [(0, .pointer (some ⟨F.rb, 0, none⟩)), (1, .slice (some ⟨vb, 0, none⟩) 2 3)] ⟨Y, Y, trivial⟩ ?_
 intro Q a hP J hR hN
 have G := St.enter ho
 refine wp_seq_k fun K1 hK1=> wp_region_lit <| av J Y Y fun a J=> s0 <| then_n (hK1 _ _ <| wp_seq_k fun K2 hK2=> wp_drawG G (G.sel [] Y Y) [(0, 0), (1, 0), (2, 0), (3, 1), (4, 0), (5, 0), (6, 1), (7, 2), (8, 0), (9, 0), (10, 2), (11, 0)] mix (by kernel_rfl) (hP.then) fun w G hD=> ?_)
 refine dm J Y Y Y fun a J=> dm J Y Y Y fun a J=> dv J Y Y Y Y (fun w=> R.indexO Tryz.underlying33 sz32 (J.ev Y) (by simp) (J.ev Y) (by omega) (by omega)) fun a J=> ds J Y Y Y Y hD (fun w hD=> R.loadAO (cs := wc (u 0)) agg32 (J.ev Y) (hv.old hD) sz32 Y (Nat.succ_pos _) (v0_at Y)) fun a J=> ?_
 refine dm J Y Y Y fun a J=> dv J Y Y Y Y (fun w=> R.indexO Tryz.underlying33 sz32 (J.ev Y) (by simp) (J.ev Y) (by omega) (by omega)) fun a J=> ds J Y Y Y Y hD (fun w hD=> R.loadAO (cs := wc (u 1)) agg32 (J.ev Y) (hv.old hD) sz32 Y (Nat.succ_pos _) (v1_at Y)) fun a J=> ?_
 refine dl Y (wn Y) (O.call Y Y J ent120 (J.evs Y) G (sub_calls (u 0) (u 1) _ (hvM 0) (hvM 1)) fun v s12 a w hR J G=> ⟨fun hD=> G.sel [] Y Y, ?_⟩)
 obtain ⟨rfl, rfl⟩ := hR
 have hD := G.sel [] rfl rfl
 rw [show subW (u 0) (u 1) = .tuple #[wv (0), .int .i64 23] from by simp only [subW, if_neg h]] at J
 refine dx J Y Y Y Y fun a J=> dx J Y Y Y Y fun a J=> dl Y (wn Y) (O.callK Y Y J ent118 (J.evs Y) G (reckoned_bad F _ (0) _ _ (G.own1 (.t .h)) (by decide)) (fun _=> (.t .h)) fun v s15 a w hR J G=> ⟨fun hD=> G.sel [] Y Y, ?_⟩)
 obtain ⟨rfl, he⟩ := hR
 rw [he] at G
 have hD := G.sel [] rfl rfl
 refine da J Y Y Y fun a J=> d0 <| then_n (hK2 _ _ <| wp_ret (hR _ _ _ _ _ J (run_results Tryz.results70 (.t J Y (.nil))) ?_))
 exact ⟨_, s, Y, ⟨Y, Y⟩, G.one (.t .h)⟩
theorem mul_good (F : Fx) (V : Vr) (stk : List Nat) (s : Seg) (vb : Nat) (u : Nat → Nat) (w0 : World) (hRun : RunS F V stk s) (ho : Own w0 s) (hv : RdK w0 (s.map (·.1)) (some ⟨vb, 0, none⟩) (vc u)) (hvM : ∀ i, u i < 115792089237316195423570985008687907853269984665640564039457584007913129639936) (hl : stk.length ≤ 64) (h : (u 0 * u 1 < 115792089237316195423570985008687907853269984665640564039457584007913129639936)) : Ret Tryz.prog 71 [.pointer (some ⟨F.rb, 0, none⟩), .slice (some ⟨vb, 0, none⟩) 2 3] w0 (s.map (·.1)) (fun v s' => v = .int .i64 0 ∧ RunS F V (stk ++ [u 0 * u 1]) s') := by
 refine fn_start Tryz.func71 Y Tryz.ntmps71 Y [(0, .pointer (some ⟨F.rb, 0, none⟩)), (1, .slice (some ⟨vb, 0, none⟩) 2 3)] ⟨Y, Y, trivial⟩ ?_
 intro Q a hP J hR hN
 have G := St.enter ho
 refine wp_seq_k fun K1 hK1=> wp_region_lit <| av J Y Y fun a J=> s0 <| then_n (hK1 _ _ <| wp_seq_k fun K2 hK2=> wp_drawG G (G.sel [] Y Y) [(0, 0), (1, 0), (2, 0), (3, 1), (4, 0), (5, 0), (6, 1), (7, 2), (8, 0), (9, 0), (10, 2), (11, 0)] mix (by kernel_rfl) (hP.then) fun w G hD=> ?_)
 refine dm J Y Y Y fun a J=> dm J Y Y Y fun a J=> dv J Y Y Y Y (fun w=> R.indexO Tryz.underlying33 sz32 (J.ev Y) (by simp) (J.ev Y) (by omega) (by omega)) fun a J=> ds J Y Y Y Y hD (fun w hD=> R.loadAO (cs := wc (u 0)) agg32 (J.ev Y) (hv.old hD) sz32 Y (Nat.succ_pos _) (v0_at Y)) fun a J=> ?_
 refine dm J Y Y Y fun a J=> dv J Y Y Y Y (fun w=> R.indexO Tryz.underlying33 sz32 (J.ev Y) (by simp) (J.ev Y) (by omega) (by omega)) fun a J=> ds J Y Y Y Y hD (fun w hD=> R.loadAO (cs := wc (u 1)) agg32 (J.ev Y) (hv.old hD) sz32 Y (Nat.succ_pos _) (v1_at Y)) fun a J=> ?_
 refine dl Y (wn Y) (O.call Y Y J ent121 (J.evs Y) G (mul_calls (u 0) (u 1) _ (hvM 0) (hvM 1)) fun v s12 a w hR J G=> ⟨fun hD=> G.sel [] Y Y, ?_⟩)
 obtain ⟨rfl, rfl⟩ := hR
 have hD := G.sel [] rfl rfl
 rw [show mulW (u 0) (u 1) = .tuple #[wv (u 0 * u 1), .int .i64 0] from by simp only [mulW, if_pos h]] at J
 refine dx J Y Y Y Y fun a J=> dx J Y Y Y Y fun a J=> dl Y (wn Y) (O.callK Y Y J ent118 (J.evs Y) G (reckoned_good F V stk _ (u 0 * u 1) _ hRun (G.own1 (.t .h)) (by have := hvM 0; have := hvM 1; first | omega | exact Nat.lt_of_le_of_lt (Nat.div_le_self _ _) (hvM 0) | exact Nat.lt_of_le_of_lt (Nat.mod_le _ _) (hvM 0)) hl) (fun _=> (.t .h)) fun v s15 a w hR J G=> ⟨fun hD=> G.sel [] Y Y, ?_⟩)
 obtain ⟨rfl, hRun2⟩ := hR
 have hD := G.sel [] rfl rfl
 refine da J Y Y Y fun a J=> d0 <| then_n (hK2 _ _ <| wp_ret (hR _ _ _ _ _ J (run_results Tryz.results71 (.t J Y (.nil))) ?_))
 exact ⟨_, s15, Y, ⟨Y, hRun2⟩, G.one (.t .h)⟩
theorem mul_bad (F : Fx) (V : Vr) (stk : List Nat) (s : Seg) (vb : Nat) (u : Nat → Nat) (w0 : World) (hRun : RunS F V stk s) (ho : Own w0 s) (hv : RdK w0 (s.map (·.1)) (some ⟨vb, 0, none⟩) (vc u)) (hvM : ∀ i, u i < 115792089237316195423570985008687907853269984665640564039457584007913129639936) (hl : stk.length ≤ 64) (h : ¬ (u 0 * u 1 < 115792089237316195423570985008687907853269984665640564039457584007913129639936)) : Ret Tryz.prog 71 [.pointer (some ⟨F.rb, 0, none⟩), .slice (some ⟨vb, 0, none⟩) 2 3] w0 (s.map (·.1)) (fun v s' => v = .int .i64 104 ∧ s' = s) := by
 refine fn_start Tryz.func71 Y Tryz.ntmps71 Y [(0, .pointer (some ⟨F.rb, 0, none⟩)), (1, .slice (some ⟨vb, 0, none⟩) 2 3)] ⟨Y, Y, trivial⟩ ?_
 intro Q a hP J hR hN
 have G := St.enter ho
 refine wp_seq_k fun K1 hK1=> wp_region_lit <| av J Y Y fun a J=> s0 <| then_n (hK1 _ _ <| wp_seq_k fun K2 hK2=> wp_drawG G (G.sel [] Y Y) [(0, 0), (1, 0), (2, 0), (3, 1), (4, 0), (5, 0), (6, 1), (7, 2), (8, 0), (9, 0), (10, 2), (11, 0)] mix (by kernel_rfl) (hP.then) fun w G hD=> ?_)
 refine dm J Y Y Y fun a J=> dm J Y Y Y fun a J=> dv J Y Y Y Y (fun w=> R.indexO Tryz.underlying33 sz32 (J.ev Y) (by simp) (J.ev Y) (by omega) (by omega)) fun a J=> ds J Y Y Y Y hD (fun w hD=> R.loadAO (cs := wc (u 0)) agg32 (J.ev Y) (hv.old hD) sz32 Y (Nat.succ_pos _) (v0_at Y)) fun a J=> ?_
 refine dm J Y Y Y fun a J=> dv J Y Y Y Y (fun w=> R.indexO Tryz.underlying33 sz32 (J.ev Y) (by simp) (J.ev Y) (by omega) (by omega)) fun a J=> ds J Y Y Y Y hD (fun w hD=> R.loadAO (cs := wc (u 1)) agg32 (J.ev Y) (hv.old hD) sz32 Y (Nat.succ_pos _) (v1_at Y)) fun a J=> ?_
 refine dl Y (wn Y) (O.call Y Y J ent121 (J.evs Y) G (mul_calls (u 0) (u 1) _ (hvM 0) (hvM 1)) fun v s12 a w hR J G=> ⟨fun hD=> G.sel [] Y Y, ?_⟩)
 obtain ⟨rfl, rfl⟩ := hR
 have hD := G.sel [] rfl rfl
 rw [show mulW (u 0) (u 1) = .tuple #[wv (0), .int .i64 22] from by simp only [mulW, if_neg h]] at J
 refine dx J Y Y Y Y fun a J=> dx J Y Y Y Y fun a J=> dl Y (wn Y) (O.callK Y Y J ent118 (J.evs Y) G (reckoned_bad F _ (0) _ _ (G.own1 (.t .h)) (by decide)) (fun _=> (.t .h)) fun v s15 a w hR J G=> ⟨fun hD=> G.sel [] Y Y, ?_⟩)
 obtain ⟨rfl, he⟩ := hR
 rw [he] at G
 have hD := G.sel [] rfl rfl
 refine da J Y Y Y fun a J=> d0 <| then_n (hK2 _ _ <| wp_ret (hR _ _ _ _ _ J (run_results Tryz.results71 (.t J Y (.nil))) ?_))
 exact ⟨_, s, Y, ⟨Y, Y⟩, G.one (.t .h)⟩
set_option maxHeartbeats 4000000 in
theorem div_good (F : Fx) (V : Vr) (stk : List Nat) (s : Seg) (vb : Nat) (u : Nat → Nat) (w0 : World) (hRun : RunS F V stk s) (ho : Own w0 s) (hv : RdK w0 (s.map (·.1)) (some ⟨vb, 0, none⟩) (vc u)) (hvM : ∀ i, u i < 115792089237316195423570985008687907853269984665640564039457584007913129639936) (hl : stk.length ≤ 64) (h : ¬ u 1 = 0) : Ret Tryz.prog 72 [.pointer (some ⟨F.rb, 0, none⟩), .slice (some ⟨vb, 0, none⟩) 2 3] w0 (s.map (·.1)) (fun v s' => v = .int .i64 0 ∧ RunS F V (stk ++ [u 0 / u 1]) s') := by
 refine fn_start Tryz.func72 Y Tryz.ntmps72 Y [(0, .pointer (some ⟨F.rb, 0, none⟩)), (1, .slice (some ⟨vb, 0, none⟩) 2 3)] ⟨Y, Y, trivial⟩ ?_
 intro Q a hP J hR hN
 have G := St.enter ho
 refine wp_seq_k fun K1 hK1=> wp_region_lit <| av J Y Y fun a J=> s0 <| then_n (hK1 _ _ <| wp_seq_k fun K2 hK2=> wp_drawN G (G.sel [] Y Y) [(0, 0), (1, 0), (2, 1), (3, 0), (4, 0), (5, 1), (6, 2), (7, 0), (8, 0), (9, 0), (10, 0), (11, 2), (12, 2), (13, 2), (14, 2), (15, 0)] (.node [(0, 0), (1, 0), (2, 1), (3, 0), (4, 0), (5, 1)] (.node [(6, 2), (7, 0), (8, 0), (9, 0), (10, 0)] (.leaf [(11, 2), (12, 2), (13, 2), (14, 2), (15, 0)]) (.leaf [(12, 2), (11, 2), (13, 2), (14, 2), (15, 0)])) (.node [] (.node [(11, 2)] (.leaf [(6, 2), (7, 0), (8, 0), (9, 0), (10, 0), (12, 2), (13, 2), (14, 2), (15, 0)]) (.leaf [(12, 2), (6, 2), (7, 0), (8, 0), (9, 0), (10, 0), (13, 2), (14, 2), (15, 0)])) (.node [(12, 2)] (.leaf [(6, 2), (7, 0), (8, 0), (9, 0), (10, 0), (11, 2), (13, 2), (14, 2), (15, 0)]) (.leaf [(11, 2), (6, 2), (7, 0), (8, 0), (9, 0), (10, 0), (13, 2), (14, 2), (15, 0)])))) mix (by kernel_rfl) (hP.then) fun w G hD=> ?_)
 refine dm J Y Y Y fun a J=> dv J Y Y Y Y (fun w=> R.indexO Tryz.underlying33 sz32 (J.ev Y) (by simp) (J.ev Y) (by omega) (by omega)) fun a J=> ds J Y Y Y Y hD (fun w hD=> R.loadAO (cs := wc (u 0)) agg32 (J.ev Y) (hv.old hD) sz32 Y (Nat.succ_pos _) (v0_at Y)) fun a J=> ?_
 refine dm J Y Y Y fun a J=> dv J Y Y Y Y (fun w=> R.indexO Tryz.underlying33 sz32 (J.ev Y) (by simp) (J.ev Y) (by omega) (by omega)) fun a J=> ds J Y Y Y Y hD (fun w hD=> R.loadAO (cs := wc (u 1)) agg32 (J.ev Y) (hv.old hD) sz32 Y (Nat.succ_pos _) (v1_at Y)) fun a J=> ?_
 refine d0 <| ⟨?_, nd0 ⟨?_, ?_⟩⟩
 ·refine dl Y (wn Y) (O.call Y Y J ent122 (J.evs Y) G (div_calls (u 0) (u 1) _ (hvM 0) (hvM 1)) fun v s15 a w hR J G=> ⟨fun hD=> G.sel [] Y Y, ?_⟩)
  obtain ⟨rfl, rfl⟩ := hR
  have hD := G.sel [] rfl rfl
  rw [show divW (u 0) (u 1) = .tuple #[wv (u 0 / u 1), wv (u 0 % u 1), .int .i64 0] from by simp only [divW, if_neg h]] at J
  refine dm J Y Y Y fun a J=> dx J Y Y Y Y fun a J=> dx J Y Y Y Y fun a J=> dx J Y Y Y Y fun a J=> d0 <| ⟨?_, ?_⟩
  ·refine dl Y (wn Y) (O.alloc Y Y J ze32 Y G fun b5 a w J G=> ⟨fun hD=> G.sel [] Y Y, ?_⟩)
   have hD := G.sel [] rfl rfl
   refine dl Y (wn Y) (O.alloc Y Y J ze32 Y G fun b6 a w J G=> ⟨fun hD=> G.sel [] Y Y, ?_⟩)
   have hD := G.sel [] rfl rfl
   refine dl Y (wn Y) (O.storeW sz32 (J.ev Y) (J.ev Y) (Y) Y (by simp [Value.oneCell']) G (.t .h) (Y) fun w G=> ⟨fun hD=> G.sel [] Y Y, ?_⟩)
   have hD := G.sel [] rfl rfl
   refine dl Y (wn Y) (O.storeW sz32 (J.ev Y) (J.ev Y) (Y) Y (by simp [Value.oneCell']) G .h (Y) fun w G=> ⟨fun hD=> G.sel [] Y Y, ?_⟩)
   have hD := G.sel [] rfl rfl
   refine da J Y Y Y fun a J=> d0 <| then_n (hK2 _ _ <| wp_seq_k fun K3 hK3=> wp_region_lit <| mv J Y Y fun a J=> sw J Y Y Y (R.loadW agg32 (J.ev Y) G (.t .h) sz32 (Y)) fun a J=> mv J Y Y fun a J=> so (wn Y) (O.callK Y Y J ent118 (J.evs Y) G (reckoned_good F V stk _ (u 0 / u 1) _ hRun (G.own1 (.t (.t (.t .h)))) (by have := hvM 0; have := hvM 1; first | omega | exact Nat.lt_of_le_of_lt (Nat.div_le_self _ _) (hvM 0) | exact Nat.lt_of_le_of_lt (Nat.mod_le _ _) (hvM 0)) hl) (fun _=> (.t (.t (.t .h)))) fun v s22 a w hR J G=> ?_))
   obtain ⟨rfl, hRun2⟩ := hR
   refine av J Y Y fun a J=> s0 <| then_n (hK3 _ _ <| wp_ret (hR _ _ _ _ _ J (run_results Tryz.results72 (.t J Y (.nil))) ?_))
   exact ⟨_, s22, Y, ⟨Y, hRun2⟩, G.one (.t (.t (.t .h)))⟩
  refine dl Y (wn Y) (O.alloc Y Y J ze32 Y G fun b6 a w J G=> ⟨fun hD=> G.sel [] Y Y, ?_⟩)
  have hD := G.sel [] rfl rfl
  refine dl Y (wn Y) (O.alloc Y Y J ze32 Y G fun b5 a w J G=> ⟨fun hD=> G.sel [] Y Y, ?_⟩)
  have hD := G.sel [] rfl rfl
  refine dl Y (wn Y) (O.storeW sz32 (J.ev Y) (J.ev Y) (Y) Y (by simp [Value.oneCell']) G .h (Y) fun w G=> ⟨fun hD=> G.sel [] Y Y, ?_⟩)
  have hD := G.sel [] rfl rfl
  refine dl Y (wn Y) (O.storeW sz32 (J.ev Y) (J.ev Y) (Y) Y (by simp [Value.oneCell']) G (.t .h) (Y) fun w G=> ⟨fun hD=> G.sel [] Y Y, ?_⟩)
  have hD := G.sel [] rfl rfl
  refine da J Y Y Y fun a J=> d0 <| then_n (hK2 _ _ <| wp_seq_k fun K4 hK4=> wp_region_lit <| mv J Y Y fun a J=> sw J Y Y Y (R.loadW agg32 (J.ev Y) G .h sz32 (Y)) fun a J=> mv J Y Y fun a J=> so (wn Y) (O.callK Y Y J ent118 (J.evs Y) G (reckoned_good F V stk _ (u 0 / u 1) _ hRun (G.own1 (.t (.t (.t .h)))) (by have := hvM 0; have := hvM 1; first | omega | exact Nat.lt_of_le_of_lt (Nat.div_le_self _ _) (hvM 0) | exact Nat.lt_of_le_of_lt (Nat.mod_le _ _) (hvM 0)) hl) (fun _=> (.t (.t (.t .h)))) fun v s22 a w hR J G=> ?_))
  obtain ⟨rfl, hRun2⟩ := hR
  refine av J Y Y fun a J=> s0 <| then_n (hK4 _ _ <| wp_ret (hR _ _ _ _ _ J (run_results Tryz.results72 (.t J Y (.nil))) ?_))
  exact ⟨_, s22, Y, ⟨Y, hRun2⟩, G.one (.t (.t (.t .h)))⟩
 ·refine dl Y (wn Y) (O.alloc Y Y J ze32 Y G fun b5 a w J G=> ⟨fun hD=> G.sel [] Y Y, ?_⟩)
  have hD := G.sel [] rfl rfl
  refine d0 <| ⟨?_, ?_⟩
  ·refine dl Y (wn Y) (O.call Y Y J ent122 (J.evs Y) G (div_calls (u 0) (u 1) _ (hvM 0) (hvM 1)) fun v s15 a w hR J G=> ⟨fun hD=> G.sel [] Y Y, ?_⟩)
   obtain ⟨rfl, rfl⟩ := hR
   have hD := G.sel [] rfl rfl
   rw [show divW (u 0) (u 1) = .tuple #[wv (u 0 / u 1), wv (u 0 % u 1), .int .i64 0] from by simp only [divW, if_neg h]] at J
   refine dm J Y Y Y fun a J=> dx J Y Y Y Y fun a J=> dx J Y Y Y Y fun a J=> dx J Y Y Y Y fun a J=> dl Y (wn Y) (O.alloc Y Y J ze32 Y G fun b6 a w J G=> ⟨fun hD=> G.sel [] Y Y, ?_⟩)
   have hD := G.sel [] rfl rfl
   refine dl Y (wn Y) (O.storeW sz32 (J.ev Y) (J.ev Y) (Y) Y (by simp [Value.oneCell']) G (.t (.t .h)) (Y) fun w G=> ⟨fun hD=> G.sel [] Y Y, ?_⟩)
   have hD := G.sel [] rfl rfl
   refine dl Y (wn Y) (O.storeW sz32 (J.ev Y) (J.ev Y) (Y) Y (by simp [Value.oneCell']) G .h (Y) fun w G=> ⟨fun hD=> G.sel [] Y Y, ?_⟩)
   have hD := G.sel [] rfl rfl
   refine da J Y Y Y fun a J=> d0 <| then_n (hK2 _ _ <| wp_seq_k fun K5 hK5=> wp_region_lit <| mv J Y Y fun a J=> sw J Y Y Y (R.loadW agg32 (J.ev Y) G (.t (.t .h)) sz32 (Y)) fun a J=> mv J Y Y fun a J=> so (wn Y) (O.callK Y Y J ent118 (J.evs Y) G (reckoned_good F V stk _ (u 0 / u 1) _ hRun (G.own1 (.t (.t (.t .h)))) (by have := hvM 0; have := hvM 1; first | omega | exact Nat.lt_of_le_of_lt (Nat.div_le_self _ _) (hvM 0) | exact Nat.lt_of_le_of_lt (Nat.mod_le _ _) (hvM 0)) hl) (fun _=> (.t (.t (.t .h)))) fun v s22 a w hR J G=> ?_))
   obtain ⟨rfl, hRun2⟩ := hR
   refine av J Y Y fun a J=> s0 <| then_n (hK5 _ _ <| wp_ret (hR _ _ _ _ _ J (run_results Tryz.results72 (.t J Y (.nil))) ?_))
   exact ⟨_, s22, Y, ⟨Y, hRun2⟩, G.one (.t (.t (.t .h)))⟩
  refine dl Y (wn Y) (O.alloc Y Y J ze32 Y G fun b6 a w J G=> ⟨fun hD=> G.sel [] Y Y, ?_⟩)
  have hD := G.sel [] rfl rfl
  refine dl Y (wn Y) (O.call Y Y J ent122 (J.evs Y) G (div_calls (u 0) (u 1) _ (hvM 0) (hvM 1)) fun v s15 a w hR J G=> ⟨fun hD=> G.sel [] Y Y, ?_⟩)
  obtain ⟨rfl, rfl⟩ := hR
  have hD := G.sel [] rfl rfl
  rw [show divW (u 0) (u 1) = .tuple #[wv (u 0 / u 1), wv (u 0 % u 1), .int .i64 0] from by simp only [divW, if_neg h]] at J
  refine dm J Y Y Y fun a J=> dx J Y Y Y Y fun a J=> dx J Y Y Y Y fun a J=> dx J Y Y Y Y fun a J=> dl Y (wn Y) (O.storeW sz32 (J.ev Y) (J.ev Y) (Y) Y (by simp [Value.oneCell']) G (.t (.t .h)) (Y) fun w G=> ⟨fun hD=> G.sel [] Y Y, ?_⟩)
  have hD := G.sel [] rfl rfl
  refine dl Y (wn Y) (O.storeW sz32 (J.ev Y) (J.ev Y) (Y) Y (by simp [Value.oneCell']) G (.t .h) (Y) fun w G=> ⟨fun hD=> G.sel [] Y Y, ?_⟩)
  have hD := G.sel [] rfl rfl
  refine da J Y Y Y fun a J=> d0 <| then_n (hK2 _ _ <| wp_seq_k fun K6 hK6=> wp_region_lit <| mv J Y Y fun a J=> sw J Y Y Y (R.loadW agg32 (J.ev Y) G (.t (.t .h)) sz32 (Y)) fun a J=> mv J Y Y fun a J=> so (wn Y) (O.callK Y Y J ent118 (J.evs Y) G (reckoned_good F V stk _ (u 0 / u 1) _ hRun (G.own1 (.t (.t (.t .h)))) (by have := hvM 0; have := hvM 1; first | omega | exact Nat.lt_of_le_of_lt (Nat.div_le_self _ _) (hvM 0) | exact Nat.lt_of_le_of_lt (Nat.mod_le _ _) (hvM 0)) hl) (fun _=> (.t (.t (.t .h)))) fun v s22 a w hR J G=> ?_))
  obtain ⟨rfl, hRun2⟩ := hR
  refine av J Y Y fun a J=> s0 <| then_n (hK6 _ _ <| wp_ret (hR _ _ _ _ _ J (run_results Tryz.results72 (.t J Y (.nil))) ?_))
  exact ⟨_, s22, Y, ⟨Y, hRun2⟩, G.one (.t (.t (.t .h)))⟩
 refine dl Y (wn Y) (O.alloc Y Y J ze32 Y G fun b6 a w J G=> ⟨fun hD=> G.sel [] Y Y, ?_⟩)
 have hD := G.sel [] rfl rfl
 refine d0 <| ⟨?_, ?_⟩
 ·refine dl Y (wn Y) (O.call Y Y J ent122 (J.evs Y) G (div_calls (u 0) (u 1) _ (hvM 0) (hvM 1)) fun v s15 a w hR J G=> ⟨fun hD=> G.sel [] Y Y, ?_⟩)
  obtain ⟨rfl, rfl⟩ := hR
  have hD := G.sel [] rfl rfl
  rw [show divW (u 0) (u 1) = .tuple #[wv (u 0 / u 1), wv (u 0 % u 1), .int .i64 0] from by simp only [divW, if_neg h]] at J
  refine dm J Y Y Y fun a J=> dx J Y Y Y Y fun a J=> dx J Y Y Y Y fun a J=> dx J Y Y Y Y fun a J=> dl Y (wn Y) (O.alloc Y Y J ze32 Y G fun b5 a w J G=> ⟨fun hD=> G.sel [] Y Y, ?_⟩)
  have hD := G.sel [] rfl rfl
  refine dl Y (wn Y) (O.storeW sz32 (J.ev Y) (J.ev Y) (Y) Y (by simp [Value.oneCell']) G .h (Y) fun w G=> ⟨fun hD=> G.sel [] Y Y, ?_⟩)
  have hD := G.sel [] rfl rfl
  refine dl Y (wn Y) (O.storeW sz32 (J.ev Y) (J.ev Y) (Y) Y (by simp [Value.oneCell']) G (.t (.t .h)) (Y) fun w G=> ⟨fun hD=> G.sel [] Y Y, ?_⟩)
  have hD := G.sel [] rfl rfl
  refine da J Y Y Y fun a J=> d0 <| then_n (hK2 _ _ <| wp_seq_k fun K7 hK7=> wp_region_lit <| mv J Y Y fun a J=> sw J Y Y Y (R.loadW agg32 (J.ev Y) G .h sz32 (Y)) fun a J=> mv J Y Y fun a J=> so (wn Y) (O.callK Y Y J ent118 (J.evs Y) G (reckoned_good F V stk _ (u 0 / u 1) _ hRun (G.own1 (.t (.t (.t .h)))) (by have := hvM 0; have := hvM 1; first | omega | exact Nat.lt_of_le_of_lt (Nat.div_le_self _ _) (hvM 0) | exact Nat.lt_of_le_of_lt (Nat.mod_le _ _) (hvM 0)) hl) (fun _=> (.t (.t (.t .h)))) fun v s22 a w hR J G=> ?_))
  obtain ⟨rfl, hRun2⟩ := hR
  refine av J Y Y fun a J=> s0 <| then_n (hK7 _ _ <| wp_ret (hR _ _ _ _ _ J (run_results Tryz.results72 (.t J Y (.nil))) ?_))
  exact ⟨_, s22, Y, ⟨Y, hRun2⟩, G.one (.t (.t (.t .h)))⟩
 refine dl Y (wn Y) (O.alloc Y Y J ze32 Y G fun b5 a w J G=> ⟨fun hD=> G.sel [] Y Y, ?_⟩)
 have hD := G.sel [] rfl rfl
 refine dl Y (wn Y) (O.call Y Y J ent122 (J.evs Y) G (div_calls (u 0) (u 1) _ (hvM 0) (hvM 1)) fun v s15 a w hR J G=> ⟨fun hD=> G.sel [] Y Y, ?_⟩)
 obtain ⟨rfl, rfl⟩ := hR
 have hD := G.sel [] rfl rfl
 rw [show divW (u 0) (u 1) = .tuple #[wv (u 0 / u 1), wv (u 0 % u 1), .int .i64 0] from by simp only [divW, if_neg h]] at J
 refine dm J Y Y Y fun a J=> dx J Y Y Y Y fun a J=> dx J Y Y Y Y fun a J=> dx J Y Y Y Y fun a J=> dl Y (wn Y) (O.storeW sz32 (J.ev Y) (J.ev Y) (Y) Y (by simp [Value.oneCell']) G (.t .h) (Y) fun w G=> ⟨fun hD=> G.sel [] Y Y, ?_⟩)
 have hD := G.sel [] rfl rfl
 refine dl Y (wn Y) (O.storeW sz32 (J.ev Y) (J.ev Y) (Y) Y (by simp [Value.oneCell']) G (.t (.t .h)) (Y) fun w G=> ⟨fun hD=> G.sel [] Y Y, ?_⟩)
 have hD := G.sel [] rfl rfl
 refine da J Y Y Y fun a J=> d0 <| then_n (hK2 _ _ <| wp_seq_k fun K8 hK8=> wp_region_lit <| mv J Y Y fun a J=> sw J Y Y Y (R.loadW agg32 (J.ev Y) G (.t .h) sz32 (Y)) fun a J=> mv J Y Y fun a J=> so (wn Y) (O.callK Y Y J ent118 (J.evs Y) G (reckoned_good F V stk _ (u 0 / u 1) _ hRun (G.own1 (.t (.t (.t .h)))) (by have := hvM 0; have := hvM 1; first | omega | exact Nat.lt_of_le_of_lt (Nat.div_le_self _ _) (hvM 0) | exact Nat.lt_of_le_of_lt (Nat.mod_le _ _) (hvM 0)) hl) (fun _=> (.t (.t (.t .h)))) fun v s22 a w hR J G=> ?_))
 obtain ⟨rfl, hRun2⟩ := hR
 refine av J Y Y fun a J=> s0 <| then_n (hK8 _ _ <| wp_ret (hR _ _ _ _ _ J (run_results Tryz.results72 (.t J Y (.nil))) ?_))
 exact ⟨_, s22, Y, ⟨Y, hRun2⟩, G.one (.t (.t (.t .h)))⟩
set_option maxHeartbeats 4000000 in
theorem div_bad (F : Fx) (V : Vr) (stk : List Nat) (s : Seg) (vb : Nat) (u : Nat → Nat) (w0 : World) (hRun : RunS F V stk s) (ho : Own w0 s) (hv : RdK w0 (s.map (·.1)) (some ⟨vb, 0, none⟩) (vc u)) (hvM : ∀ i, u i < 115792089237316195423570985008687907853269984665640564039457584007913129639936) (hl : stk.length ≤ 64) (h : u 1 = 0) : Ret Tryz.prog 72 [.pointer (some ⟨F.rb, 0, none⟩), .slice (some ⟨vb, 0, none⟩) 2 3] w0 (s.map (·.1)) (fun v s' => v = .int .i64 104 ∧ s' = s) := by
 refine fn_start Tryz.func72 Y Tryz.ntmps72 Y [(0, .pointer (some ⟨F.rb, 0, none⟩)), (1, .slice (some ⟨vb, 0, none⟩) 2 3)] ⟨Y, Y, trivial⟩ ?_
 intro Q a hP J hR hN
 have G := St.enter ho
 refine wp_seq_k fun K1 hK1=> wp_region_lit <| av J Y Y fun a J=> s0 <| then_n (hK1 _ _ <| wp_seq_k fun K2 hK2=> wp_drawN G (G.sel [] Y Y) [(0, 0), (1, 0), (2, 1), (3, 0), (4, 0), (5, 1), (6, 2), (7, 0), (8, 0), (9, 0), (10, 0), (11, 2), (12, 2), (13, 2), (14, 2), (15, 0)] (.node [(0, 0), (1, 0), (2, 1), (3, 0), (4, 0), (5, 1)] (.node [(6, 2), (7, 0), (8, 0), (9, 0), (10, 0)] (.leaf [(11, 2), (12, 2), (13, 2), (14, 2), (15, 0)]) (.leaf [(12, 2), (11, 2), (13, 2), (14, 2), (15, 0)])) (.node [] (.node [(11, 2)] (.leaf [(6, 2), (7, 0), (8, 0), (9, 0), (10, 0), (12, 2), (13, 2), (14, 2), (15, 0)]) (.leaf [(12, 2), (6, 2), (7, 0), (8, 0), (9, 0), (10, 0), (13, 2), (14, 2), (15, 0)])) (.node [(12, 2)] (.leaf [(6, 2), (7, 0), (8, 0), (9, 0), (10, 0), (11, 2), (13, 2), (14, 2), (15, 0)]) (.leaf [(11, 2), (6, 2), (7, 0), (8, 0), (9, 0), (10, 0), (13, 2), (14, 2), (15, 0)])))) mix (by kernel_rfl) (hP.then) fun w G hD=> ?_)
 refine dm J Y Y Y fun a J=> dv J Y Y Y Y (fun w=> R.indexO Tryz.underlying33 sz32 (J.ev Y) (by simp) (J.ev Y) (by omega) (by omega)) fun a J=> ds J Y Y Y Y hD (fun w hD=> R.loadAO (cs := wc (u 0)) agg32 (J.ev Y) (hv.old hD) sz32 Y (Nat.succ_pos _) (v0_at Y)) fun a J=> ?_
 refine dm J Y Y Y fun a J=> dv J Y Y Y Y (fun w=> R.indexO Tryz.underlying33 sz32 (J.ev Y) (by simp) (J.ev Y) (by omega) (by omega)) fun a J=> ds J Y Y Y Y hD (fun w hD=> R.loadAO (cs := wc (u 1)) agg32 (J.ev Y) (hv.old hD) sz32 Y (Nat.succ_pos _) (v1_at Y)) fun a J=> ?_
 refine d0 <| ⟨?_, nd0 ⟨?_, ?_⟩⟩
 ·refine dl Y (wn Y) (O.call Y Y J ent122 (J.evs Y) G (div_calls (u 0) (u 1) _ (hvM 0) (hvM 1)) fun v s15 a w hR J G=> ⟨fun hD=> G.sel [] Y Y, ?_⟩)
  obtain ⟨rfl, rfl⟩ := hR
  have hD := G.sel [] rfl rfl
  rw [show divW (u 0) (u 1) = .tuple #[wv (0), wv (0), .int .i64 24] from by simp only [divW, if_pos h]] at J
  refine dm J Y Y Y fun a J=> dx J Y Y Y Y fun a J=> dx J Y Y Y Y fun a J=> dx J Y Y Y Y fun a J=> d0 <| ⟨?_, ?_⟩
  ·refine dl Y (wn Y) (O.alloc Y Y J ze32 Y G fun b5 a w J G=> ⟨fun hD=> G.sel [] Y Y, ?_⟩)
   have hD := G.sel [] rfl rfl
   refine dl Y (wn Y) (O.alloc Y Y J ze32 Y G fun b6 a w J G=> ⟨fun hD=> G.sel [] Y Y, ?_⟩)
   have hD := G.sel [] rfl rfl
   refine dl Y (wn Y) (O.storeW sz32 (J.ev Y) (J.ev Y) (Y) Y (by simp [Value.oneCell']) G (.t .h) (Y) fun w G=> ⟨fun hD=> G.sel [] Y Y, ?_⟩)
   have hD := G.sel [] rfl rfl
   refine dl Y (wn Y) (O.storeW sz32 (J.ev Y) (J.ev Y) (Y) Y (by simp [Value.oneCell']) G .h (Y) fun w G=> ⟨fun hD=> G.sel [] Y Y, ?_⟩)
   have hD := G.sel [] rfl rfl
   refine da J Y Y Y fun a J=> d0 <| then_n (hK2 _ _ <| wp_seq_k fun K3 hK3=> wp_region_lit <| mv J Y Y fun a J=> sw J Y Y Y (R.loadW agg32 (J.ev Y) G (.t .h) sz32 (Y)) fun a J=> mv J Y Y fun a J=> so (wn Y) (O.callK Y Y J ent118 (J.evs Y) G (reckoned_bad F _ (0) _ _ (G.own1 (.t (.t (.t .h)))) (by decide)) (fun _=> (.t (.t (.t .h)))) fun v s22 a w hR J G=> ?_))
   obtain ⟨rfl, he⟩ := hR
   rw [he] at G
   refine av J Y Y fun a J=> s0 <| then_n (hK3 _ _ <| wp_ret (hR _ _ _ _ _ J (run_results Tryz.results72 (.t J Y (.nil))) ?_))
   exact ⟨_, s, Y, ⟨Y, Y⟩, G.one (.t (.t (.t .h)))⟩
  refine dl Y (wn Y) (O.alloc Y Y J ze32 Y G fun b6 a w J G=> ⟨fun hD=> G.sel [] Y Y, ?_⟩)
  have hD := G.sel [] rfl rfl
  refine dl Y (wn Y) (O.alloc Y Y J ze32 Y G fun b5 a w J G=> ⟨fun hD=> G.sel [] Y Y, ?_⟩)
  have hD := G.sel [] rfl rfl
  refine dl Y (wn Y) (O.storeW sz32 (J.ev Y) (J.ev Y) (Y) Y (by simp [Value.oneCell']) G .h (Y) fun w G=> ⟨fun hD=> G.sel [] Y Y, ?_⟩)
  have hD := G.sel [] rfl rfl
  refine dl Y (wn Y) (O.storeW sz32 (J.ev Y) (J.ev Y) (Y) Y (by simp [Value.oneCell']) G (.t .h) (Y) fun w G=> ⟨fun hD=> G.sel [] Y Y, ?_⟩)
  have hD := G.sel [] rfl rfl
  refine da J Y Y Y fun a J=> d0 <| then_n (hK2 _ _ <| wp_seq_k fun K4 hK4=> wp_region_lit <| mv J Y Y fun a J=> sw J Y Y Y (R.loadW agg32 (J.ev Y) G .h sz32 (Y)) fun a J=> mv J Y Y fun a J=> so (wn Y) (O.callK Y Y J ent118 (J.evs Y) G (reckoned_bad F _ (0) _ _ (G.own1 (.t (.t (.t .h)))) (by decide)) (fun _=> (.t (.t (.t .h)))) fun v s22 a w hR J G=> ?_))
  obtain ⟨rfl, he⟩ := hR
  rw [he] at G
  refine av J Y Y fun a J=> s0 <| then_n (hK4 _ _ <| wp_ret (hR _ _ _ _ _ J (run_results Tryz.results72 (.t J Y (.nil))) ?_))
  exact ⟨_, s, Y, ⟨Y, Y⟩, G.one (.t (.t (.t .h)))⟩
 ·refine dl Y (wn Y) (O.alloc Y Y J ze32 Y G fun b5 a w J G=> ⟨fun hD=> G.sel [] Y Y, ?_⟩)
  have hD := G.sel [] rfl rfl
  refine d0 <| ⟨?_, ?_⟩
  ·refine dl Y (wn Y) (O.call Y Y J ent122 (J.evs Y) G (div_calls (u 0) (u 1) _ (hvM 0) (hvM 1)) fun v s15 a w hR J G=> ⟨fun hD=> G.sel [] Y Y, ?_⟩)
   obtain ⟨rfl, rfl⟩ := hR
   have hD := G.sel [] rfl rfl
   rw [show divW (u 0) (u 1) = .tuple #[wv (0), wv (0), .int .i64 24] from by simp only [divW, if_pos h]] at J
   refine dm J Y Y Y fun a J=> dx J Y Y Y Y fun a J=> dx J Y Y Y Y fun a J=> dx J Y Y Y Y fun a J=> dl Y (wn Y) (O.alloc Y Y J ze32 Y G fun b6 a w J G=> ⟨fun hD=> G.sel [] Y Y, ?_⟩)
   have hD := G.sel [] rfl rfl
   refine dl Y (wn Y) (O.storeW sz32 (J.ev Y) (J.ev Y) (Y) Y (by simp [Value.oneCell']) G (.t (.t .h)) (Y) fun w G=> ⟨fun hD=> G.sel [] Y Y, ?_⟩)
   have hD := G.sel [] rfl rfl
   refine dl Y (wn Y) (O.storeW sz32 (J.ev Y) (J.ev Y) (Y) Y (by simp [Value.oneCell']) G .h (Y) fun w G=> ⟨fun hD=> G.sel [] Y Y, ?_⟩)
   have hD := G.sel [] rfl rfl
   refine da J Y Y Y fun a J=> d0 <| then_n (hK2 _ _ <| wp_seq_k fun K5 hK5=> wp_region_lit <| mv J Y Y fun a J=> sw J Y Y Y (R.loadW agg32 (J.ev Y) G (.t (.t .h)) sz32 (Y)) fun a J=> mv J Y Y fun a J=> so (wn Y) (O.callK Y Y J ent118 (J.evs Y) G (reckoned_bad F _ (0) _ _ (G.own1 (.t (.t (.t .h)))) (by decide)) (fun _=> (.t (.t (.t .h)))) fun v s22 a w hR J G=> ?_))
   obtain ⟨rfl, he⟩ := hR
   rw [he] at G
   refine av J Y Y fun a J=> s0 <| then_n (hK5 _ _ <| wp_ret (hR _ _ _ _ _ J (run_results Tryz.results72 (.t J Y (.nil))) ?_))
   exact ⟨_, s, Y, ⟨Y, Y⟩, G.one (.t (.t (.t .h)))⟩
  refine dl Y (wn Y) (O.alloc Y Y J ze32 Y G fun b6 a w J G=> ⟨fun hD=> G.sel [] Y Y, ?_⟩)
  have hD := G.sel [] rfl rfl
  refine dl Y (wn Y) (O.call Y Y J ent122 (J.evs Y) G (div_calls (u 0) (u 1) _ (hvM 0) (hvM 1)) fun v s15 a w hR J G=> ⟨fun hD=> G.sel [] Y Y, ?_⟩)
  obtain ⟨rfl, rfl⟩ := hR
  have hD := G.sel [] rfl rfl
  rw [show divW (u 0) (u 1) = .tuple #[wv (0), wv (0), .int .i64 24] from by simp only [divW, if_pos h]] at J
  refine dm J Y Y Y fun a J=> dx J Y Y Y Y fun a J=> dx J Y Y Y Y fun a J=> dx J Y Y Y Y fun a J=> dl Y (wn Y) (O.storeW sz32 (J.ev Y) (J.ev Y) (Y) Y (by simp [Value.oneCell']) G (.t (.t .h)) (Y) fun w G=> ⟨fun hD=> G.sel [] Y Y, ?_⟩)
  have hD := G.sel [] rfl rfl
  refine dl Y (wn Y) (O.storeW sz32 (J.ev Y) (J.ev Y) (Y) Y (by simp [Value.oneCell']) G (.t .h) (Y) fun w G=> ⟨fun hD=> G.sel [] Y Y, ?_⟩)
  have hD := G.sel [] rfl rfl
  refine da J Y Y Y fun a J=> d0 <| then_n (hK2 _ _ <| wp_seq_k fun K6 hK6=> wp_region_lit <| mv J Y Y fun a J=> sw J Y Y Y (R.loadW agg32 (J.ev Y) G (.t (.t .h)) sz32 (Y)) fun a J=> mv J Y Y fun a J=> so (wn Y) (O.callK Y Y J ent118 (J.evs Y) G (reckoned_bad F _ (0) _ _ (G.own1 (.t (.t (.t .h)))) (by decide)) (fun _=> (.t (.t (.t .h)))) fun v s22 a w hR J G=> ?_))
  obtain ⟨rfl, he⟩ := hR
  rw [he] at G
  refine av J Y Y fun a J=> s0 <| then_n (hK6 _ _ <| wp_ret (hR _ _ _ _ _ J (run_results Tryz.results72 (.t J Y (.nil))) ?_))
  exact ⟨_, s, Y, ⟨Y, Y⟩, G.one (.t (.t (.t .h)))⟩
 refine dl Y (wn Y) (O.alloc Y Y J ze32 Y G fun b6 a w J G=> ⟨fun hD=> G.sel [] Y Y, ?_⟩)
 have hD := G.sel [] rfl rfl
 refine d0 <| ⟨?_, ?_⟩
 ·refine dl Y (wn Y) (O.call Y Y J ent122 (J.evs Y) G (div_calls (u 0) (u 1) _ (hvM 0) (hvM 1)) fun v s15 a w hR J G=> ⟨fun hD=> G.sel [] Y Y, ?_⟩)
  obtain ⟨rfl, rfl⟩ := hR
  have hD := G.sel [] rfl rfl
  rw [show divW (u 0) (u 1) = .tuple #[wv (0), wv (0), .int .i64 24] from by simp only [divW, if_pos h]] at J
  refine dm J Y Y Y fun a J=> dx J Y Y Y Y fun a J=> dx J Y Y Y Y fun a J=> dx J Y Y Y Y fun a J=> dl Y (wn Y) (O.alloc Y Y J ze32 Y G fun b5 a w J G=> ⟨fun hD=> G.sel [] Y Y, ?_⟩)
  have hD := G.sel [] rfl rfl
  refine dl Y (wn Y) (O.storeW sz32 (J.ev Y) (J.ev Y) (Y) Y (by simp [Value.oneCell']) G .h (Y) fun w G=> ⟨fun hD=> G.sel [] Y Y, ?_⟩)
  have hD := G.sel [] rfl rfl
  refine dl Y (wn Y) (O.storeW sz32 (J.ev Y) (J.ev Y) (Y) Y (by simp [Value.oneCell']) G (.t (.t .h)) (Y) fun w G=> ⟨fun hD=> G.sel [] Y Y, ?_⟩)
  have hD := G.sel [] rfl rfl
  refine da J Y Y Y fun a J=> d0 <| then_n (hK2 _ _ <| wp_seq_k fun K7 hK7=> wp_region_lit <| mv J Y Y fun a J=> sw J Y Y Y (R.loadW agg32 (J.ev Y) G .h sz32 (Y)) fun a J=> mv J Y Y fun a J=> so (wn Y) (O.callK Y Y J ent118 (J.evs Y) G (reckoned_bad F _ (0) _ _ (G.own1 (.t (.t (.t .h)))) (by decide)) (fun _=> (.t (.t (.t .h)))) fun v s22 a w hR J G=> ?_))
  obtain ⟨rfl, he⟩ := hR
  rw [he] at G
  refine av J Y Y fun a J=> s0 <| then_n (hK7 _ _ <| wp_ret (hR _ _ _ _ _ J (run_results Tryz.results72 (.t J Y (.nil))) ?_))
  exact ⟨_, s, Y, ⟨Y, Y⟩, G.one (.t (.t (.t .h)))⟩
 refine dl Y (wn Y) (O.alloc Y Y J ze32 Y G fun b5 a w J G=> ⟨fun hD=> G.sel [] Y Y, ?_⟩)
 have hD := G.sel [] rfl rfl
 refine dl Y (wn Y) (O.call Y Y J ent122 (J.evs Y) G (div_calls (u 0) (u 1) _ (hvM 0) (hvM 1)) fun v s15 a w hR J G=> ⟨fun hD=> G.sel [] Y Y, ?_⟩)
 obtain ⟨rfl, rfl⟩ := hR
 have hD := G.sel [] rfl rfl
 rw [show divW (u 0) (u 1) = .tuple #[wv (0), wv (0), .int .i64 24] from by simp only [divW, if_pos h]] at J
 refine dm J Y Y Y fun a J=> dx J Y Y Y Y fun a J=> dx J Y Y Y Y fun a J=> dx J Y Y Y Y fun a J=> dl Y (wn Y) (O.storeW sz32 (J.ev Y) (J.ev Y) (Y) Y (by simp [Value.oneCell']) G (.t .h) (Y) fun w G=> ⟨fun hD=> G.sel [] Y Y, ?_⟩)
 have hD := G.sel [] rfl rfl
 refine dl Y (wn Y) (O.storeW sz32 (J.ev Y) (J.ev Y) (Y) Y (by simp [Value.oneCell']) G (.t (.t .h)) (Y) fun w G=> ⟨fun hD=> G.sel [] Y Y, ?_⟩)
 have hD := G.sel [] rfl rfl
 refine da J Y Y Y fun a J=> d0 <| then_n (hK2 _ _ <| wp_seq_k fun K8 hK8=> wp_region_lit <| mv J Y Y fun a J=> sw J Y Y Y (R.loadW agg32 (J.ev Y) G (.t .h) sz32 (Y)) fun a J=> mv J Y Y fun a J=> so (wn Y) (O.callK Y Y J ent118 (J.evs Y) G (reckoned_bad F _ (0) _ _ (G.own1 (.t (.t (.t .h)))) (by decide)) (fun _=> (.t (.t (.t .h)))) fun v s22 a w hR J G=> ?_))
 obtain ⟨rfl, he⟩ := hR
 rw [he] at G
 refine av J Y Y fun a J=> s0 <| then_n (hK8 _ _ <| wp_ret (hR _ _ _ _ _ J (run_results Tryz.results72 (.t J Y (.nil))) ?_))
 exact ⟨_, s, Y, ⟨Y, Y⟩, G.one (.t (.t (.t .h)))⟩
set_option maxHeartbeats 4000000 in
theorem mod_good (F : Fx) (V : Vr) (stk : List Nat) (s : Seg) (vb : Nat) (u : Nat → Nat) (w0 : World) (hRun : RunS F V stk s) (ho : Own w0 s) (hv : RdK w0 (s.map (·.1)) (some ⟨vb, 0, none⟩) (vc u)) (hvM : ∀ i, u i < 115792089237316195423570985008687907853269984665640564039457584007913129639936) (hl : stk.length ≤ 64) (h : ¬ u 1 = 0) : Ret Tryz.prog 73 [.pointer (some ⟨F.rb, 0, none⟩), .slice (some ⟨vb, 0, none⟩) 2 3] w0 (s.map (·.1)) (fun v s' => v = .int .i64 0 ∧ RunS F V (stk ++ [u 0 % u 1]) s') := by
 refine fn_start Tryz.func73 Y Tryz.ntmps73 Y [(0, .pointer (some ⟨F.rb, 0, none⟩)), (1, .slice (some ⟨vb, 0, none⟩) 2 3)] ⟨Y, Y, trivial⟩ ?_
 intro Q a hP J hR hN
 have G := St.enter ho
 refine wp_seq_k fun K1 hK1=> wp_region_lit <| av J Y Y fun a J=> s0 <| then_n (hK1 _ _ <| wp_seq_k fun K2 hK2=> wp_drawN G (G.sel [] Y Y) [(0, 0), (1, 0), (2, 1), (3, 0), (4, 0), (5, 1), (6, 2), (7, 0), (8, 0), (9, 0), (10, 0), (11, 2), (12, 2), (13, 2), (14, 2), (15, 0)] (.node [(0, 0), (1, 0), (2, 1), (3, 0), (4, 0), (5, 1)] (.node [(6, 2), (7, 0), (8, 0), (9, 0), (10, 0)] (.leaf [(11, 2), (12, 2), (13, 2), (14, 2), (15, 0)]) (.leaf [(12, 2), (11, 2), (13, 2), (14, 2), (15, 0)])) (.node [] (.node [(11, 2)] (.leaf [(6, 2), (7, 0), (8, 0), (9, 0), (10, 0), (12, 2), (13, 2), (14, 2), (15, 0)]) (.leaf [(12, 2), (6, 2), (7, 0), (8, 0), (9, 0), (10, 0), (13, 2), (14, 2), (15, 0)])) (.node [(12, 2)] (.leaf [(6, 2), (7, 0), (8, 0), (9, 0), (10, 0), (11, 2), (13, 2), (14, 2), (15, 0)]) (.leaf [(11, 2), (6, 2), (7, 0), (8, 0), (9, 0), (10, 0), (13, 2), (14, 2), (15, 0)])))) mix (by kernel_rfl) (hP.then) fun w G hD=> ?_)
 refine dm J Y Y Y fun a J=> dv J Y Y Y Y (fun w=> R.indexO Tryz.underlying33 sz32 (J.ev Y) (by simp) (J.ev Y) (by omega) (by omega)) fun a J=> ds J Y Y Y Y hD (fun w hD=> R.loadAO (cs := wc (u 0)) agg32 (J.ev Y) (hv.old hD) sz32 Y (Nat.succ_pos _) (v0_at Y)) fun a J=> ?_
 refine dm J Y Y Y fun a J=> dv J Y Y Y Y (fun w=> R.indexO Tryz.underlying33 sz32 (J.ev Y) (by simp) (J.ev Y) (by omega) (by omega)) fun a J=> ds J Y Y Y Y hD (fun w hD=> R.loadAO (cs := wc (u 1)) agg32 (J.ev Y) (hv.old hD) sz32 Y (Nat.succ_pos _) (v1_at Y)) fun a J=> ?_
 refine d0 <| ⟨?_, nd0 ⟨?_, ?_⟩⟩
 ·refine dl Y (wn Y) (O.call Y Y J ent122 (J.evs Y) G (div_calls (u 0) (u 1) _ (hvM 0) (hvM 1)) fun v s15 a w hR J G=> ⟨fun hD=> G.sel [] Y Y, ?_⟩)
  obtain ⟨rfl, rfl⟩ := hR
  have hD := G.sel [] rfl rfl
  rw [show divW (u 0) (u 1) = .tuple #[wv (u 0 / u 1), wv (u 0 % u 1), .int .i64 0] from by simp only [divW, if_neg h]] at J
  refine dm J Y Y Y fun a J=> dx J Y Y Y Y fun a J=> dx J Y Y Y Y fun a J=> dx J Y Y Y Y fun a J=> d0 <| ⟨?_, ?_⟩
  ·refine dl Y (wn Y) (O.alloc Y Y J ze32 Y G fun b5 a w J G=> ⟨fun hD=> G.sel [] Y Y, ?_⟩)
   have hD := G.sel [] rfl rfl
   refine dl Y (wn Y) (O.alloc Y Y J ze32 Y G fun b6 a w J G=> ⟨fun hD=> G.sel [] Y Y, ?_⟩)
   have hD := G.sel [] rfl rfl
   refine dl Y (wn Y) (O.storeW sz32 (J.ev Y) (J.ev Y) (Y) Y (by simp [Value.oneCell']) G (.t .h) (Y) fun w G=> ⟨fun hD=> G.sel [] Y Y, ?_⟩)
   have hD := G.sel [] rfl rfl
   refine dl Y (wn Y) (O.storeW sz32 (J.ev Y) (J.ev Y) (Y) Y (by simp [Value.oneCell']) G .h (Y) fun w G=> ⟨fun hD=> G.sel [] Y Y, ?_⟩)
   have hD := G.sel [] rfl rfl
   refine da J Y Y Y fun a J=> d0 <| then_n (hK2 _ _ <| wp_seq_k fun K3 hK3=> wp_region_lit <| mv J Y Y fun a J=> sw J Y Y Y (R.loadW agg32 (J.ev Y) G .h sz32 (Y)) fun a J=> mv J Y Y fun a J=> so (wn Y) (O.callK Y Y J ent118 (J.evs Y) G (reckoned_good F V stk _ (u 0 % u 1) _ hRun (G.own1 (.t (.t (.t .h)))) (by have := hvM 0; have := hvM 1; first | omega | exact Nat.lt_of_le_of_lt (Nat.div_le_self _ _) (hvM 0) | exact Nat.lt_of_le_of_lt (Nat.mod_le _ _) (hvM 0)) hl) (fun _=> (.t (.t (.t .h)))) fun v s22 a w hR J G=> ?_))
   obtain ⟨rfl, hRun2⟩ := hR
   refine av J Y Y fun a J=> s0 <| then_n (hK3 _ _ <| wp_ret (hR _ _ _ _ _ J (run_results Tryz.results73 (.t J Y (.nil))) ?_))
   exact ⟨_, s22, Y, ⟨Y, hRun2⟩, G.one (.t (.t (.t .h)))⟩
  refine dl Y (wn Y) (O.alloc Y Y J ze32 Y G fun b6 a w J G=> ⟨fun hD=> G.sel [] Y Y, ?_⟩)
  have hD := G.sel [] rfl rfl
  refine dl Y (wn Y) (O.alloc Y Y J ze32 Y G fun b5 a w J G=> ⟨fun hD=> G.sel [] Y Y, ?_⟩)
  have hD := G.sel [] rfl rfl
  refine dl Y (wn Y) (O.storeW sz32 (J.ev Y) (J.ev Y) (Y) Y (by simp [Value.oneCell']) G .h (Y) fun w G=> ⟨fun hD=> G.sel [] Y Y, ?_⟩)
  have hD := G.sel [] rfl rfl
  refine dl Y (wn Y) (O.storeW sz32 (J.ev Y) (J.ev Y) (Y) Y (by simp [Value.oneCell']) G (.t .h) (Y) fun w G=> ⟨fun hD=> G.sel [] Y Y, ?_⟩)
  have hD := G.sel [] rfl rfl
  refine da J Y Y Y fun a J=> d0 <| then_n (hK2 _ _ <| wp_seq_k fun K4 hK4=> wp_region_lit <| mv J Y Y fun a J=> sw J Y Y Y (R.loadW agg32 (J.ev Y) G (.t .h) sz32 (Y)) fun a J=> mv J Y Y fun a J=> so (wn Y) (O.callK Y Y J ent118 (J.evs Y) G (reckoned_good F V stk _ (u 0 % u 1) _ hRun (G.own1 (.t (.t (.t .h)))) (by have := hvM 0; have := hvM 1; first | omega | exact Nat.lt_of_le_of_lt (Nat.div_le_self _ _) (hvM 0) | exact Nat.lt_of_le_of_lt (Nat.mod_le _ _) (hvM 0)) hl) (fun _=> (.t (.t (.t .h)))) fun v s22 a w hR J G=> ?_))
  obtain ⟨rfl, hRun2⟩ := hR
  refine av J Y Y fun a J=> s0 <| then_n (hK4 _ _ <| wp_ret (hR _ _ _ _ _ J (run_results Tryz.results73 (.t J Y (.nil))) ?_))
  exact ⟨_, s22, Y, ⟨Y, hRun2⟩, G.one (.t (.t (.t .h)))⟩
 ·refine dl Y (wn Y) (O.alloc Y Y J ze32 Y G fun b5 a w J G=> ⟨fun hD=> G.sel [] Y Y, ?_⟩)
  have hD := G.sel [] rfl rfl
  refine d0 <| ⟨?_, ?_⟩
  ·refine dl Y (wn Y) (O.call Y Y J ent122 (J.evs Y) G (div_calls (u 0) (u 1) _ (hvM 0) (hvM 1)) fun v s15 a w hR J G=> ⟨fun hD=> G.sel [] Y Y, ?_⟩)
   obtain ⟨rfl, rfl⟩ := hR
   have hD := G.sel [] rfl rfl
   rw [show divW (u 0) (u 1) = .tuple #[wv (u 0 / u 1), wv (u 0 % u 1), .int .i64 0] from by simp only [divW, if_neg h]] at J
   refine dm J Y Y Y fun a J=> dx J Y Y Y Y fun a J=> dx J Y Y Y Y fun a J=> dx J Y Y Y Y fun a J=> dl Y (wn Y) (O.alloc Y Y J ze32 Y G fun b6 a w J G=> ⟨fun hD=> G.sel [] Y Y, ?_⟩)
   have hD := G.sel [] rfl rfl
   refine dl Y (wn Y) (O.storeW sz32 (J.ev Y) (J.ev Y) (Y) Y (by simp [Value.oneCell']) G (.t (.t .h)) (Y) fun w G=> ⟨fun hD=> G.sel [] Y Y, ?_⟩)
   have hD := G.sel [] rfl rfl
   refine dl Y (wn Y) (O.storeW sz32 (J.ev Y) (J.ev Y) (Y) Y (by simp [Value.oneCell']) G .h (Y) fun w G=> ⟨fun hD=> G.sel [] Y Y, ?_⟩)
   have hD := G.sel [] rfl rfl
   refine da J Y Y Y fun a J=> d0 <| then_n (hK2 _ _ <| wp_seq_k fun K5 hK5=> wp_region_lit <| mv J Y Y fun a J=> sw J Y Y Y (R.loadW agg32 (J.ev Y) G .h sz32 (Y)) fun a J=> mv J Y Y fun a J=> so (wn Y) (O.callK Y Y J ent118 (J.evs Y) G (reckoned_good F V stk _ (u 0 % u 1) _ hRun (G.own1 (.t (.t (.t .h)))) (by have := hvM 0; have := hvM 1; first | omega | exact Nat.lt_of_le_of_lt (Nat.div_le_self _ _) (hvM 0) | exact Nat.lt_of_le_of_lt (Nat.mod_le _ _) (hvM 0)) hl) (fun _=> (.t (.t (.t .h)))) fun v s22 a w hR J G=> ?_))
   obtain ⟨rfl, hRun2⟩ := hR
   refine av J Y Y fun a J=> s0 <| then_n (hK5 _ _ <| wp_ret (hR _ _ _ _ _ J (run_results Tryz.results73 (.t J Y (.nil))) ?_))
   exact ⟨_, s22, Y, ⟨Y, hRun2⟩, G.one (.t (.t (.t .h)))⟩
  refine dl Y (wn Y) (O.alloc Y Y J ze32 Y G fun b6 a w J G=> ⟨fun hD=> G.sel [] Y Y, ?_⟩)
  have hD := G.sel [] rfl rfl
  refine dl Y (wn Y) (O.call Y Y J ent122 (J.evs Y) G (div_calls (u 0) (u 1) _ (hvM 0) (hvM 1)) fun v s15 a w hR J G=> ⟨fun hD=> G.sel [] Y Y, ?_⟩)
  obtain ⟨rfl, rfl⟩ := hR
  have hD := G.sel [] rfl rfl
  rw [show divW (u 0) (u 1) = .tuple #[wv (u 0 / u 1), wv (u 0 % u 1), .int .i64 0] from by simp only [divW, if_neg h]] at J
  refine dm J Y Y Y fun a J=> dx J Y Y Y Y fun a J=> dx J Y Y Y Y fun a J=> dx J Y Y Y Y fun a J=> dl Y (wn Y) (O.storeW sz32 (J.ev Y) (J.ev Y) (Y) Y (by simp [Value.oneCell']) G (.t (.t .h)) (Y) fun w G=> ⟨fun hD=> G.sel [] Y Y, ?_⟩)
  have hD := G.sel [] rfl rfl
  refine dl Y (wn Y) (O.storeW sz32 (J.ev Y) (J.ev Y) (Y) Y (by simp [Value.oneCell']) G (.t .h) (Y) fun w G=> ⟨fun hD=> G.sel [] Y Y, ?_⟩)
  have hD := G.sel [] rfl rfl
  refine da J Y Y Y fun a J=> d0 <| then_n (hK2 _ _ <| wp_seq_k fun K6 hK6=> wp_region_lit <| mv J Y Y fun a J=> sw J Y Y Y (R.loadW agg32 (J.ev Y) G (.t .h) sz32 (Y)) fun a J=> mv J Y Y fun a J=> so (wn Y) (O.callK Y Y J ent118 (J.evs Y) G (reckoned_good F V stk _ (u 0 % u 1) _ hRun (G.own1 (.t (.t (.t .h)))) (by have := hvM 0; have := hvM 1; first | omega | exact Nat.lt_of_le_of_lt (Nat.div_le_self _ _) (hvM 0) | exact Nat.lt_of_le_of_lt (Nat.mod_le _ _) (hvM 0)) hl) (fun _=> (.t (.t (.t .h)))) fun v s22 a w hR J G=> ?_))
  obtain ⟨rfl, hRun2⟩ := hR
  refine av J Y Y fun a J=> s0 <| then_n (hK6 _ _ <| wp_ret (hR _ _ _ _ _ J (run_results Tryz.results73 (.t J Y (.nil))) ?_))
  exact ⟨_, s22, Y, ⟨Y, hRun2⟩, G.one (.t (.t (.t .h)))⟩
 refine dl Y (wn Y) (O.alloc Y Y J ze32 Y G fun b6 a w J G=> ⟨fun hD=> G.sel [] Y Y, ?_⟩)
 have hD := G.sel [] rfl rfl
 refine d0 <| ⟨?_, ?_⟩
 ·refine dl Y (wn Y) (O.call Y Y J ent122 (J.evs Y) G (div_calls (u 0) (u 1) _ (hvM 0) (hvM 1)) fun v s15 a w hR J G=> ⟨fun hD=> G.sel [] Y Y, ?_⟩)
  obtain ⟨rfl, rfl⟩ := hR
  have hD := G.sel [] rfl rfl
  rw [show divW (u 0) (u 1) = .tuple #[wv (u 0 / u 1), wv (u 0 % u 1), .int .i64 0] from by simp only [divW, if_neg h]] at J
  refine dm J Y Y Y fun a J=> dx J Y Y Y Y fun a J=> dx J Y Y Y Y fun a J=> dx J Y Y Y Y fun a J=> dl Y (wn Y) (O.alloc Y Y J ze32 Y G fun b5 a w J G=> ⟨fun hD=> G.sel [] Y Y, ?_⟩)
  have hD := G.sel [] rfl rfl
  refine dl Y (wn Y) (O.storeW sz32 (J.ev Y) (J.ev Y) (Y) Y (by simp [Value.oneCell']) G .h (Y) fun w G=> ⟨fun hD=> G.sel [] Y Y, ?_⟩)
  have hD := G.sel [] rfl rfl
  refine dl Y (wn Y) (O.storeW sz32 (J.ev Y) (J.ev Y) (Y) Y (by simp [Value.oneCell']) G (.t (.t .h)) (Y) fun w G=> ⟨fun hD=> G.sel [] Y Y, ?_⟩)
  have hD := G.sel [] rfl rfl
  refine da J Y Y Y fun a J=> d0 <| then_n (hK2 _ _ <| wp_seq_k fun K7 hK7=> wp_region_lit <| mv J Y Y fun a J=> sw J Y Y Y (R.loadW agg32 (J.ev Y) G (.t (.t .h)) sz32 (Y)) fun a J=> mv J Y Y fun a J=> so (wn Y) (O.callK Y Y J ent118 (J.evs Y) G (reckoned_good F V stk _ (u 0 % u 1) _ hRun (G.own1 (.t (.t (.t .h)))) (by have := hvM 0; have := hvM 1; first | omega | exact Nat.lt_of_le_of_lt (Nat.div_le_self _ _) (hvM 0) | exact Nat.lt_of_le_of_lt (Nat.mod_le _ _) (hvM 0)) hl) (fun _=> (.t (.t (.t .h)))) fun v s22 a w hR J G=> ?_))
  obtain ⟨rfl, hRun2⟩ := hR
  refine av J Y Y fun a J=> s0 <| then_n (hK7 _ _ <| wp_ret (hR _ _ _ _ _ J (run_results Tryz.results73 (.t J Y (.nil))) ?_))
  exact ⟨_, s22, Y, ⟨Y, hRun2⟩, G.one (.t (.t (.t .h)))⟩
 refine dl Y (wn Y) (O.alloc Y Y J ze32 Y G fun b5 a w J G=> ⟨fun hD=> G.sel [] Y Y, ?_⟩)
 have hD := G.sel [] rfl rfl
 refine dl Y (wn Y) (O.call Y Y J ent122 (J.evs Y) G (div_calls (u 0) (u 1) _ (hvM 0) (hvM 1)) fun v s15 a w hR J G=> ⟨fun hD=> G.sel [] Y Y, ?_⟩)
 obtain ⟨rfl, rfl⟩ := hR
 have hD := G.sel [] rfl rfl
 rw [show divW (u 0) (u 1) = .tuple #[wv (u 0 / u 1), wv (u 0 % u 1), .int .i64 0] from by simp only [divW, if_neg h]] at J
 refine dm J Y Y Y fun a J=> dx J Y Y Y Y fun a J=> dx J Y Y Y Y fun a J=> dx J Y Y Y Y fun a J=> dl Y (wn Y) (O.storeW sz32 (J.ev Y) (J.ev Y) (Y) Y (by simp [Value.oneCell']) G (.t .h) (Y) fun w G=> ⟨fun hD=> G.sel [] Y Y, ?_⟩)
 have hD := G.sel [] rfl rfl
 refine dl Y (wn Y) (O.storeW sz32 (J.ev Y) (J.ev Y) (Y) Y (by simp [Value.oneCell']) G (.t (.t .h)) (Y) fun w G=> ⟨fun hD=> G.sel [] Y Y, ?_⟩)
 have hD := G.sel [] rfl rfl
 refine da J Y Y Y fun a J=> d0 <| then_n (hK2 _ _ <| wp_seq_k fun K8 hK8=> wp_region_lit <| mv J Y Y fun a J=> sw J Y Y Y (R.loadW agg32 (J.ev Y) G (.t (.t .h)) sz32 (Y)) fun a J=> mv J Y Y fun a J=> so (wn Y) (O.callK Y Y J ent118 (J.evs Y) G (reckoned_good F V stk _ (u 0 % u 1) _ hRun (G.own1 (.t (.t (.t .h)))) (by have := hvM 0; have := hvM 1; first | omega | exact Nat.lt_of_le_of_lt (Nat.div_le_self _ _) (hvM 0) | exact Nat.lt_of_le_of_lt (Nat.mod_le _ _) (hvM 0)) hl) (fun _=> (.t (.t (.t .h)))) fun v s22 a w hR J G=> ?_))
 obtain ⟨rfl, hRun2⟩ := hR
 refine av J Y Y fun a J=> s0 <| then_n (hK8 _ _ <| wp_ret (hR _ _ _ _ _ J (run_results Tryz.results73 (.t J Y (.nil))) ?_))
 exact ⟨_, s22, Y, ⟨Y, hRun2⟩, G.one (.t (.t (.t .h)))⟩
set_option maxHeartbeats 4000000 in
theorem mod_bad (F : Fx) (V : Vr) (stk : List Nat) (s : Seg) (vb : Nat) (u : Nat → Nat) (w0 : World) (hRun : RunS F V stk s) (ho : Own w0 s) (hv : RdK w0 (s.map (·.1)) (some ⟨vb, 0, none⟩) (vc u)) (hvM : ∀ i, u i < 115792089237316195423570985008687907853269984665640564039457584007913129639936) (hl : stk.length ≤ 64) (h : u 1 = 0) : Ret Tryz.prog 73 [.pointer (some ⟨F.rb, 0, none⟩), .slice (some ⟨vb, 0, none⟩) 2 3] w0 (s.map (·.1)) (fun v s' => v = .int .i64 104 ∧ s' = s) := by
 refine fn_start Tryz.func73 Y Tryz.ntmps73 Y [(0, .pointer (some ⟨F.rb, 0, none⟩)), (1, .slice (some ⟨vb, 0, none⟩) 2 3)] ⟨Y, Y, trivial⟩ ?_
 intro Q a hP J hR hN
 have G := St.enter ho
 refine wp_seq_k fun K1 hK1=> wp_region_lit <| av J Y Y fun a J=> s0 <| then_n (hK1 _ _ <| wp_seq_k fun K2 hK2=> wp_drawN G (G.sel [] Y Y) [(0, 0), (1, 0), (2, 1), (3, 0), (4, 0), (5, 1), (6, 2), (7, 0), (8, 0), (9, 0), (10, 0), (11, 2), (12, 2), (13, 2), (14, 2), (15, 0)] (.node [(0, 0), (1, 0), (2, 1), (3, 0), (4, 0), (5, 1)] (.node [(6, 2), (7, 0), (8, 0), (9, 0), (10, 0)] (.leaf [(11, 2), (12, 2), (13, 2), (14, 2), (15, 0)]) (.leaf [(12, 2), (11, 2), (13, 2), (14, 2), (15, 0)])) (.node [] (.node [(11, 2)] (.leaf [(6, 2), (7, 0), (8, 0), (9, 0), (10, 0), (12, 2), (13, 2), (14, 2), (15, 0)]) (.leaf [(12, 2), (6, 2), (7, 0), (8, 0), (9, 0), (10, 0), (13, 2), (14, 2), (15, 0)])) (.node [(12, 2)] (.leaf [(6, 2), (7, 0), (8, 0), (9, 0), (10, 0), (11, 2), (13, 2), (14, 2), (15, 0)]) (.leaf [(11, 2), (6, 2), (7, 0), (8, 0), (9, 0), (10, 0), (13, 2), (14, 2), (15, 0)])))) mix (by kernel_rfl) (hP.then) fun w G hD=> ?_)
 refine dm J Y Y Y fun a J=> dv J Y Y Y Y (fun w=> R.indexO Tryz.underlying33 sz32 (J.ev Y) (by simp) (J.ev Y) (by omega) (by omega)) fun a J=> ds J Y Y Y Y hD (fun w hD=> R.loadAO (cs := wc (u 0)) agg32 (J.ev Y) (hv.old hD) sz32 Y (Nat.succ_pos _) (v0_at Y)) fun a J=> ?_
 refine dm J Y Y Y fun a J=> dv J Y Y Y Y (fun w=> R.indexO Tryz.underlying33 sz32 (J.ev Y) (by simp) (J.ev Y) (by omega) (by omega)) fun a J=> ds J Y Y Y Y hD (fun w hD=> R.loadAO (cs := wc (u 1)) agg32 (J.ev Y) (hv.old hD) sz32 Y (Nat.succ_pos _) (v1_at Y)) fun a J=> ?_
 refine d0 <| ⟨?_, nd0 ⟨?_, ?_⟩⟩
 ·refine dl Y (wn Y) (O.call Y Y J ent122 (J.evs Y) G (div_calls (u 0) (u 1) _ (hvM 0) (hvM 1)) fun v s15 a w hR J G=> ⟨fun hD=> G.sel [] Y Y, ?_⟩)
  obtain ⟨rfl, rfl⟩ := hR
  have hD := G.sel [] rfl rfl
  rw [show divW (u 0) (u 1) = .tuple #[wv (0), wv (0), .int .i64 24] from by simp only [divW, if_pos h]] at J
  refine dm J Y Y Y fun a J=> dx J Y Y Y Y fun a J=> dx J Y Y Y Y fun a J=> dx J Y Y Y Y fun a J=> d0 <| ⟨?_, ?_⟩
  ·refine dl Y (wn Y) (O.alloc Y Y J ze32 Y G fun b5 a w J G=> ⟨fun hD=> G.sel [] Y Y, ?_⟩)
   have hD := G.sel [] rfl rfl
   refine dl Y (wn Y) (O.alloc Y Y J ze32 Y G fun b6 a w J G=> ⟨fun hD=> G.sel [] Y Y, ?_⟩)
   have hD := G.sel [] rfl rfl
   refine dl Y (wn Y) (O.storeW sz32 (J.ev Y) (J.ev Y) (Y) Y (by simp [Value.oneCell']) G (.t .h) (Y) fun w G=> ⟨fun hD=> G.sel [] Y Y, ?_⟩)
   have hD := G.sel [] rfl rfl
   refine dl Y (wn Y) (O.storeW sz32 (J.ev Y) (J.ev Y) (Y) Y (by simp [Value.oneCell']) G .h (Y) fun w G=> ⟨fun hD=> G.sel [] Y Y, ?_⟩)
   have hD := G.sel [] rfl rfl
   refine da J Y Y Y fun a J=> d0 <| then_n (hK2 _ _ <| wp_seq_k fun K3 hK3=> wp_region_lit <| mv J Y Y fun a J=> sw J Y Y Y (R.loadW agg32 (J.ev Y) G .h sz32 (Y)) fun a J=> mv J Y Y fun a J=> so (wn Y) (O.callK Y Y J ent118 (J.evs Y) G (reckoned_bad F _ (0) _ _ (G.own1 (.t (.t (.t .h)))) (by decide)) (fun _=> (.t (.t (.t .h)))) fun v s22 a w hR J G=> ?_))
   obtain ⟨rfl, he⟩ := hR
   rw [he] at G
   refine av J Y Y fun a J=> s0 <| then_n (hK3 _ _ <| wp_ret (hR _ _ _ _ _ J (run_results Tryz.results73 (.t J Y (.nil))) ?_))
   exact ⟨_, s, Y, ⟨Y, Y⟩, G.one (.t (.t (.t .h)))⟩
  refine dl Y (wn Y) (O.alloc Y Y J ze32 Y G fun b6 a w J G=> ⟨fun hD=> G.sel [] Y Y, ?_⟩)
  have hD := G.sel [] rfl rfl
  refine dl Y (wn Y) (O.alloc Y Y J ze32 Y G fun b5 a w J G=> ⟨fun hD=> G.sel [] Y Y, ?_⟩)
  have hD := G.sel [] rfl rfl
  refine dl Y (wn Y) (O.storeW sz32 (J.ev Y) (J.ev Y) (Y) Y (by simp [Value.oneCell']) G .h (Y) fun w G=> ⟨fun hD=> G.sel [] Y Y, ?_⟩)
  have hD := G.sel [] rfl rfl
  refine dl Y (wn Y) (O.storeW sz32 (J.ev Y) (J.ev Y) (Y) Y (by simp [Value.oneCell']) G (.t .h) (Y) fun w G=> ⟨fun hD=> G.sel [] Y Y, ?_⟩)
  have hD := G.sel [] rfl rfl
  refine da J Y Y Y fun a J=> d0 <| then_n (hK2 _ _ <| wp_seq_k fun K4 hK4=> wp_region_lit <| mv J Y Y fun a J=> sw J Y Y Y (R.loadW agg32 (J.ev Y) G (.t .h) sz32 (Y)) fun a J=> mv J Y Y fun a J=> so (wn Y) (O.callK Y Y J ent118 (J.evs Y) G (reckoned_bad F _ (0) _ _ (G.own1 (.t (.t (.t .h)))) (by decide)) (fun _=> (.t (.t (.t .h)))) fun v s22 a w hR J G=> ?_))
  obtain ⟨rfl, he⟩ := hR
  rw [he] at G
  refine av J Y Y fun a J=> s0 <| then_n (hK4 _ _ <| wp_ret (hR _ _ _ _ _ J (run_results Tryz.results73 (.t J Y (.nil))) ?_))
  exact ⟨_, s, Y, ⟨Y, Y⟩, G.one (.t (.t (.t .h)))⟩
 ·refine dl Y (wn Y) (O.alloc Y Y J ze32 Y G fun b5 a w J G=> ⟨fun hD=> G.sel [] Y Y, ?_⟩)
  have hD := G.sel [] rfl rfl
  refine d0 <| ⟨?_, ?_⟩
  ·refine dl Y (wn Y) (O.call Y Y J ent122 (J.evs Y) G (div_calls (u 0) (u 1) _ (hvM 0) (hvM 1)) fun v s15 a w hR J G=> ⟨fun hD=> G.sel [] Y Y, ?_⟩)
   obtain ⟨rfl, rfl⟩ := hR
   have hD := G.sel [] rfl rfl
   rw [show divW (u 0) (u 1) = .tuple #[wv (0), wv (0), .int .i64 24] from by simp only [divW, if_pos h]] at J
   refine dm J Y Y Y fun a J=> dx J Y Y Y Y fun a J=> dx J Y Y Y Y fun a J=> dx J Y Y Y Y fun a J=> dl Y (wn Y) (O.alloc Y Y J ze32 Y G fun b6 a w J G=> ⟨fun hD=> G.sel [] Y Y, ?_⟩)
   have hD := G.sel [] rfl rfl
   refine dl Y (wn Y) (O.storeW sz32 (J.ev Y) (J.ev Y) (Y) Y (by simp [Value.oneCell']) G (.t (.t .h)) (Y) fun w G=> ⟨fun hD=> G.sel [] Y Y, ?_⟩)
   have hD := G.sel [] rfl rfl
   refine dl Y (wn Y) (O.storeW sz32 (J.ev Y) (J.ev Y) (Y) Y (by simp [Value.oneCell']) G .h (Y) fun w G=> ⟨fun hD=> G.sel [] Y Y, ?_⟩)
   have hD := G.sel [] rfl rfl
   refine da J Y Y Y fun a J=> d0 <| then_n (hK2 _ _ <| wp_seq_k fun K5 hK5=> wp_region_lit <| mv J Y Y fun a J=> sw J Y Y Y (R.loadW agg32 (J.ev Y) G .h sz32 (Y)) fun a J=> mv J Y Y fun a J=> so (wn Y) (O.callK Y Y J ent118 (J.evs Y) G (reckoned_bad F _ (0) _ _ (G.own1 (.t (.t (.t .h)))) (by decide)) (fun _=> (.t (.t (.t .h)))) fun v s22 a w hR J G=> ?_))
   obtain ⟨rfl, he⟩ := hR
   rw [he] at G
   refine av J Y Y fun a J=> s0 <| then_n (hK5 _ _ <| wp_ret (hR _ _ _ _ _ J (run_results Tryz.results73 (.t J Y (.nil))) ?_))
   exact ⟨_, s, Y, ⟨Y, Y⟩, G.one (.t (.t (.t .h)))⟩
  refine dl Y (wn Y) (O.alloc Y Y J ze32 Y G fun b6 a w J G=> ⟨fun hD=> G.sel [] Y Y, ?_⟩)
  have hD := G.sel [] rfl rfl
  refine dl Y (wn Y) (O.call Y Y J ent122 (J.evs Y) G (div_calls (u 0) (u 1) _ (hvM 0) (hvM 1)) fun v s15 a w hR J G=> ⟨fun hD=> G.sel [] Y Y, ?_⟩)
  obtain ⟨rfl, rfl⟩ := hR
  have hD := G.sel [] rfl rfl
  rw [show divW (u 0) (u 1) = .tuple #[wv (0), wv (0), .int .i64 24] from by simp only [divW, if_pos h]] at J
  refine dm J Y Y Y fun a J=> dx J Y Y Y Y fun a J=> dx J Y Y Y Y fun a J=> dx J Y Y Y Y fun a J=> dl Y (wn Y) (O.storeW sz32 (J.ev Y) (J.ev Y) (Y) Y (by simp [Value.oneCell']) G (.t (.t .h)) (Y) fun w G=> ⟨fun hD=> G.sel [] Y Y, ?_⟩)
  have hD := G.sel [] rfl rfl
  refine dl Y (wn Y) (O.storeW sz32 (J.ev Y) (J.ev Y) (Y) Y (by simp [Value.oneCell']) G (.t .h) (Y) fun w G=> ⟨fun hD=> G.sel [] Y Y, ?_⟩)
  have hD := G.sel [] rfl rfl
  refine da J Y Y Y fun a J=> d0 <| then_n (hK2 _ _ <| wp_seq_k fun K6 hK6=> wp_region_lit <| mv J Y Y fun a J=> sw J Y Y Y (R.loadW agg32 (J.ev Y) G (.t .h) sz32 (Y)) fun a J=> mv J Y Y fun a J=> so (wn Y) (O.callK Y Y J ent118 (J.evs Y) G (reckoned_bad F _ (0) _ _ (G.own1 (.t (.t (.t .h)))) (by decide)) (fun _=> (.t (.t (.t .h)))) fun v s22 a w hR J G=> ?_))
  obtain ⟨rfl, he⟩ := hR
  rw [he] at G
  refine av J Y Y fun a J=> s0 <| then_n (hK6 _ _ <| wp_ret (hR _ _ _ _ _ J (run_results Tryz.results73 (.t J Y (.nil))) ?_))
  exact ⟨_, s, Y, ⟨Y, Y⟩, G.one (.t (.t (.t .h)))⟩
 refine dl Y (wn Y) (O.alloc Y Y J ze32 Y G fun b6 a w J G=> ⟨fun hD=> G.sel [] Y Y, ?_⟩)
 have hD := G.sel [] rfl rfl
 refine d0 <| ⟨?_, ?_⟩
 ·refine dl Y (wn Y) (O.call Y Y J ent122 (J.evs Y) G (div_calls (u 0) (u 1) _ (hvM 0) (hvM 1)) fun v s15 a w hR J G=> ⟨fun hD=> G.sel [] Y Y, ?_⟩)
  obtain ⟨rfl, rfl⟩ := hR
  have hD := G.sel [] rfl rfl
  rw [show divW (u 0) (u 1) = .tuple #[wv (0), wv (0), .int .i64 24] from by simp only [divW, if_pos h]] at J
  refine dm J Y Y Y fun a J=> dx J Y Y Y Y fun a J=> dx J Y Y Y Y fun a J=> dx J Y Y Y Y fun a J=> dl Y (wn Y) (O.alloc Y Y J ze32 Y G fun b5 a w J G=> ⟨fun hD=> G.sel [] Y Y, ?_⟩)
  have hD := G.sel [] rfl rfl
  refine dl Y (wn Y) (O.storeW sz32 (J.ev Y) (J.ev Y) (Y) Y (by simp [Value.oneCell']) G .h (Y) fun w G=> ⟨fun hD=> G.sel [] Y Y, ?_⟩)
  have hD := G.sel [] rfl rfl
  refine dl Y (wn Y) (O.storeW sz32 (J.ev Y) (J.ev Y) (Y) Y (by simp [Value.oneCell']) G (.t (.t .h)) (Y) fun w G=> ⟨fun hD=> G.sel [] Y Y, ?_⟩)
  have hD := G.sel [] rfl rfl
  refine da J Y Y Y fun a J=> d0 <| then_n (hK2 _ _ <| wp_seq_k fun K7 hK7=> wp_region_lit <| mv J Y Y fun a J=> sw J Y Y Y (R.loadW agg32 (J.ev Y) G (.t (.t .h)) sz32 (Y)) fun a J=> mv J Y Y fun a J=> so (wn Y) (O.callK Y Y J ent118 (J.evs Y) G (reckoned_bad F _ (0) _ _ (G.own1 (.t (.t (.t .h)))) (by decide)) (fun _=> (.t (.t (.t .h)))) fun v s22 a w hR J G=> ?_))
  obtain ⟨rfl, he⟩ := hR
  rw [he] at G
  refine av J Y Y fun a J=> s0 <| then_n (hK7 _ _ <| wp_ret (hR _ _ _ _ _ J (run_results Tryz.results73 (.t J Y (.nil))) ?_))
  exact ⟨_, s, Y, ⟨Y, Y⟩, G.one (.t (.t (.t .h)))⟩
 refine dl Y (wn Y) (O.alloc Y Y J ze32 Y G fun b5 a w J G=> ⟨fun hD=> G.sel [] Y Y, ?_⟩)
 have hD := G.sel [] rfl rfl
 refine dl Y (wn Y) (O.call Y Y J ent122 (J.evs Y) G (div_calls (u 0) (u 1) _ (hvM 0) (hvM 1)) fun v s15 a w hR J G=> ⟨fun hD=> G.sel [] Y Y, ?_⟩)
 obtain ⟨rfl, rfl⟩ := hR
 have hD := G.sel [] rfl rfl
 rw [show divW (u 0) (u 1) = .tuple #[wv (0), wv (0), .int .i64 24] from by simp only [divW, if_pos h]] at J
 refine dm J Y Y Y fun a J=> dx J Y Y Y Y fun a J=> dx J Y Y Y Y fun a J=> dx J Y Y Y Y fun a J=> dl Y (wn Y) (O.storeW sz32 (J.ev Y) (J.ev Y) (Y) Y (by simp [Value.oneCell']) G (.t .h) (Y) fun w G=> ⟨fun hD=> G.sel [] Y Y, ?_⟩)
 have hD := G.sel [] rfl rfl
 refine dl Y (wn Y) (O.storeW sz32 (J.ev Y) (J.ev Y) (Y) Y (by simp [Value.oneCell']) G (.t (.t .h)) (Y) fun w G=> ⟨fun hD=> G.sel [] Y Y, ?_⟩)
 have hD := G.sel [] rfl rfl
 refine da J Y Y Y fun a J=> d0 <| then_n (hK2 _ _ <| wp_seq_k fun K8 hK8=> wp_region_lit <| mv J Y Y fun a J=> sw J Y Y Y (R.loadW agg32 (J.ev Y) G (.t (.t .h)) sz32 (Y)) fun a J=> mv J Y Y fun a J=> so (wn Y) (O.callK Y Y J ent118 (J.evs Y) G (reckoned_bad F _ (0) _ _ (G.own1 (.t (.t (.t .h)))) (by decide)) (fun _=> (.t (.t (.t .h)))) fun v s22 a w hR J G=> ?_))
 obtain ⟨rfl, he⟩ := hR
 rw [he] at G
 refine av J Y Y fun a J=> s0 <| then_n (hK8 _ _ <| wp_ret (hR _ _ _ _ _ J (run_results Tryz.results73 (.t J Y (.nil))) ?_))
 exact ⟨_, s, Y, ⟨Y, Y⟩, G.one (.t (.t (.t .h)))⟩
theorem less_op (F : Fx) (V : Vr) (stk : List Nat) (s : Seg) (vb : Nat) (u : Nat → Nat) (w0 : World) (hRun : RunS F V stk s) (ho : Own w0 s) (hv : RdK w0 (s.map (·.1)) (some ⟨vb, 0, none⟩) (vc u)) (hvM : ∀ i, u i < 115792089237316195423570985008687907853269984665640564039457584007913129639936) (hl : stk.length ≤ 64) : Ret Tryz.prog 74 [.pointer (some ⟨F.rb, 0, none⟩), .slice (some ⟨vb, 0, none⟩) 2 3] w0 (s.map (·.1)) (fun v s' => v = .int .i64 0 ∧ RunS F V (stk ++ [bit1 (decide (u 0 < u 1))]) s') := by
 refine fn_start Tryz.func74 Y Tryz.ntmps74 Y [(0, .pointer (some ⟨F.rb, 0, none⟩)), (1, .slice (some ⟨vb, 0, none⟩) 2 3)] ⟨Y, Y, trivial⟩ ?_
 intro Q a hP J hR hN
 have G := St.enter ho
 refine wp_seq_k fun K1 hK1=> wp_region_lit <| av J Y Y fun a J=> s0 <| then_n (hK1 _ _ <| wp_seq_k fun K2 hK2=> wp_drawG G (G.sel [] Y Y) [(0, 0), (1, 0), (2, 0), (3, 1), (4, 0), (5, 0), (6, 1), (7, 2), (8, 0), (9, 2), (10, 2), (11, 0)] mix (by kernel_rfl) (hP.then) fun w G hD=> ?_)
 refine dm J Y Y Y fun a J=> dm J Y Y Y fun a J=> dv J Y Y Y Y (fun w=> R.indexO Tryz.underlying33 sz32 (J.ev Y) (by simp) (J.ev Y) (by omega) (by omega)) fun a J=> ds J Y Y Y Y hD (fun w hD=> R.loadAO (cs := wc (u 0)) agg32 (J.ev Y) (hv.old hD) sz32 Y (Nat.succ_pos _) (v0_at Y)) fun a J=> ?_
 refine dm J Y Y Y fun a J=> dv J Y Y Y Y (fun w=> R.indexO Tryz.underlying33 sz32 (J.ev Y) (by simp) (J.ev Y) (by omega) (by omega)) fun a J=> ds J Y Y Y Y hD (fun w hD=> R.loadAO (cs := wc (u 1)) agg32 (J.ev Y) (hv.old hD) sz32 Y (Nat.succ_pos _) (v1_at Y)) fun a J=> ?_
 refine dl Y (wn Y) (O.call Y Y J ent115 (J.evs Y) G (cmp_calls (u 0) (u 1) _ (hvM 0) (hvM 1)) fun v s12 a w hR J G=> ⟨fun hD=> G.sel [] Y Y, ?_⟩)
 obtain ⟨rfl, rfl⟩ := hR
 have hD := G.sel [] rfl rfl
 refine dv J Y Y Y Y (fun w=> R.lss (J.ev Y) (J.ev Y)) fun a J=> ?_
 rw [cmp_lt] at J
 refine dl Y (wn Y) (O.call Y Y J ent123 (J.evs Y) G (truth_calls (decide (u 0 < u 1)) _) fun v s14 a w hR J G=> ⟨fun hD=> G.sel [] Y Y, ?_⟩)
 obtain ⟨rfl, rfl⟩ := hR
 have hD := G.sel [] rfl rfl
 refine dl Y (wn Y) (O.callK Y Y J ent117 (J.evs Y) G (on_calls F V stk _ (bit1 (decide (u 0 < u 1))) _ hRun (G.own1 (.t (.t .h))) (hl)) (fun _=> (.t (.t .h))) fun v s15 a w hR J G=> ⟨fun hD=> G.sel [] Y Y, ?_⟩)
 obtain ⟨rfl, hRun2⟩ := hR
 have hD := G.sel [] rfl rfl
 refine da J Y Y Y fun a J=> d0 <| then_n (hK2 _ _ <| wp_ret (hR _ _ _ _ _ J (run_results Tryz.results74 (.t J Y (.nil))) ?_))
 exact ⟨_, s15, Y, ⟨Y, hRun2⟩, G.one (.t (.t .h))⟩
theorem same_op (F : Fx) (V : Vr) (stk : List Nat) (s : Seg) (vb : Nat) (u : Nat → Nat) (w0 : World) (hRun : RunS F V stk s) (ho : Own w0 s) (hv : RdK w0 (s.map (·.1)) (some ⟨vb, 0, none⟩) (vc u)) (hvM : ∀ i, u i < 115792089237316195423570985008687907853269984665640564039457584007913129639936) (hl : stk.length ≤ 64) : Ret Tryz.prog 75 [.pointer (some ⟨F.rb, 0, none⟩), .slice (some ⟨vb, 0, none⟩) 2 3] w0 (s.map (·.1)) (fun v s' => v = .int .i64 0 ∧ RunS F V (stk ++ [bit1 (decide (u 0 = u 1))]) s') := by
 refine fn_start Tryz.func75 Y Tryz.ntmps75 Y [(0, .pointer (some ⟨F.rb, 0, none⟩)), (1, .slice (some ⟨vb, 0, none⟩) 2 3)] ⟨Y, Y, trivial⟩ ?_
 intro Q a hP J hR hN
 have G := St.enter ho
 refine wp_seq_k fun K1 hK1=> wp_region_lit <| av J Y Y fun a J=> s0 <| then_n (hK1 _ _ <| wp_seq_k fun K2 hK2=> wp_drawG G (G.sel [] Y Y) [(0, 0), (1, 0), (2, 0), (3, 1), (4, 0), (5, 0), (6, 1), (7, 0), (8, 2), (9, 2), (10, 0)] mix (by kernel_rfl) (hP.then) fun w G hD=> ?_)
 refine dm J Y Y Y fun a J=> dm J Y Y Y fun a J=> dv J Y Y Y Y (fun w=> R.indexO Tryz.underlying33 sz32 (J.ev Y) (by simp) (J.ev Y) (by omega) (by omega)) fun a J=> ds J Y Y Y Y hD (fun w hD=> R.loadAO (cs := wc (u 0)) agg32 (J.ev Y) (hv.old hD) sz32 Y (Nat.succ_pos _) (v0_at Y)) fun a J=> ?_
 refine dm J Y Y Y fun a J=> dv J Y Y Y Y (fun w=> R.indexO Tryz.underlying33 sz32 (J.ev Y) (by simp) (J.ev Y) (by omega) (by omega)) fun a J=> ds J Y Y Y Y hD (fun w hD=> R.loadAO (cs := wc (u 1)) agg32 (J.ev Y) (hv.old hD) sz32 Y (Nat.succ_pos _) (v1_at Y)) fun a J=> ?_
 refine dv J Y Y Y Y (fun w=> R.eqlW (x := u 0) (y := u 1) (J.ev Y) (J.ev Y) (hvM 0) (hvM 1)) fun a J=> dl Y (wn Y) (O.call Y Y J ent123 (J.evs Y) G (truth_calls (decide (u 0 = u 1)) _) fun v s13 a w hR J G=> ⟨fun hD=> G.sel [] Y Y, ?_⟩)
 obtain ⟨rfl, rfl⟩ := hR
 have hD := G.sel [] rfl rfl
 refine dl Y (wn Y) (O.callK Y Y J ent117 (J.evs Y) G (on_calls F V stk _ (bit1 (decide (u 0 = u 1))) _ hRun (G.own1 (.t .h)) (hl)) (fun _=> (.t .h)) fun v s14 a w hR J G=> ⟨fun hD=> G.sel [] Y Y, ?_⟩)
 obtain ⟨rfl, hRun2⟩ := hR
 have hD := G.sel [] rfl rfl
 refine da J Y Y Y fun a J=> d0 <| then_n (hK2 _ _ <| wp_ret (hR _ _ _ _ _ J (run_results Tryz.results75 (.t J Y (.nil))) ?_))
 exact ⟨_, s14, Y, ⟨Y, hRun2⟩, G.one (.t .h)⟩
theorem not_op (F : Fx) (V : Vr) (stk : List Nat) (s : Seg) (vb : Nat) (u : Nat → Nat) (w0 : World) (hRun : RunS F V stk s) (ho : Own w0 s) (hv : RdK w0 (s.map (·.1)) (some ⟨vb, 0, none⟩) (vc u)) (hvM : ∀ i, u i < 115792089237316195423570985008687907853269984665640564039457584007913129639936) (hl : stk.length ≤ 64) : Ret Tryz.prog 76 [.pointer (some ⟨F.rb, 0, none⟩), .slice (some ⟨vb, 0, none⟩) 1 3] w0 (s.map (·.1)) (fun v s' => v = .int .i64 0 ∧ RunS F V (stk ++ [bit1 (decide (u 0 = 0))]) s') := by
 refine fn_start Tryz.func76 Y Tryz.ntmps76 Y [(0, .pointer (some ⟨F.rb, 0, none⟩)), (1, .slice (some ⟨vb, 0, none⟩) 1 3)] ⟨Y, Y, trivial⟩ ?_
 intro Q a hP J hR hN
 have G := St.enter ho
 refine wp_seq_k fun K1 hK1=> wp_region_lit <| av J Y Y fun a J=> s0 <| then_n (hK1 _ _ <| wp_seq_k fun K2 hK2=> wp_region_lit <| mv J Y Y fun a J=> mv J Y Y fun a J=> sw J Y Y Y (R.indexO Tryz.underlying33 sz32 (J.ev Y) (by simp) (J.ev Y) (by omega) (by omega)) fun a J=> sw J Y Y Y (R.loadAO (cs := wc (u 0)) agg32 (J.ev Y) (hv.old G) sz32 Y (Nat.succ_pos _) (v0_at Y)) fun a J=> so (wn Y) (O.call Y Y J ent93 (J.evs Y) G (isZero_calls (u 0) _ (hvM 0)) fun v s9 a w hR J G=> ?_))
 obtain ⟨rfl, rfl⟩ := hR
 refine so (wn Y) (O.call Y Y J ent123 (J.evs Y) G (truth_calls (decide (u 0 = 0)) _) fun v s10 a w hR J G=> ?_)
 obtain ⟨rfl, rfl⟩ := hR
 refine so (wn Y) (O.callK Y Y J ent117 (J.evs Y) G (on_calls F V stk _ (bit1 (decide (u 0 = 0))) _ hRun (G.own1 (.t (.t .h))) (hl)) (fun _=> (.t (.t .h))) fun v s11 a w hR J G=> ?_)
 obtain ⟨rfl, hRun2⟩ := hR
 refine av J Y Y fun a J=> s0 <| then_n (hK2 _ _ <| wp_ret (hR _ _ _ _ _ J (run_results Tryz.results76 (.t J Y (.nil))) ?_))
 exact ⟨_, s11, Y, ⟨Y, hRun2⟩, G.one (.t (.t .h))⟩
theorem stop_op (s : Seg) (x : Value) (rb : Nat) (w0 : World) (ho : Own w0 s) : Ret Tryz.prog 63 [.pointer (some ⟨rb, 0, none⟩), x] w0 (s.map (·.1)) (fun v s' => v = .int .i64 105 ∧ s' = s) := by
 refine fn_start Tryz.func63 Y Tryz.ntmps63 Y [(0, .pointer (some ⟨rb, 0, none⟩)), (1, x)] ⟨Y, Y, trivial⟩ ?_
 intro Q a hP J hR hN
 have G := St.enter ho
 refine wp_seq_k fun K1 hK1=> wp_region_lit <| av J Y Y fun a J=> s0 <| then_n (hK1 _ _ <| wp_seq_k fun K2 hK2=> wp_region_lit <| av J Y Y fun a J=> s0 <| then_n (hK2 _ _ <| wp_ret (hR _ _ _ _ _ J (run_results Tryz.results63 (.t J Y (.nil))) ?_)))
 exact ⟨_, s, Y, ⟨Y, Y⟩, G⟩
theorem pop_op (s : Seg) (x : Value) (rb : Nat) (w0 : World) (ho : Own w0 s) : Ret Tryz.prog 66 [.pointer (some ⟨rb, 0, none⟩), x] w0 (s.map (·.1)) (fun v s' => v = .int .i64 0 ∧ s' = s) := by
 refine fn_start Tryz.func66 Y Tryz.ntmps66 Y [(0, .pointer (some ⟨rb, 0, none⟩)), (1, x)] ⟨Y, Y, trivial⟩ ?_
 intro Q a hP J hR hN
 have G := St.enter ho
 refine wp_seq_k fun K1 hK1=> wp_region_lit <| av J Y Y fun a J=> s0 <| then_n (hK1 _ _ <| wp_seq_k fun K2 hK2=> wp_region_lit <| av J Y Y fun a J=> s0 <| then_n (hK2 _ _ <| wp_ret (hR _ _ _ _ _ J (run_results Tryz.results66 (.t J Y (.nil))) ?_)))
 exact ⟨_, s, Y, ⟨Y, Y⟩, G⟩
end Go.Proofs.YtlapmbkfmbkdoaaGreatDoor
end
