/- The calls of both Checks. -/
import Derived.Test.YtlapmbkfmbkdoaaDe
namespace Go.Proofs.Ytlapmbkfmbkdoaa
open Go Go.Fw Go.RowKit
attribute [local irreducible] Go.Oper.wp Go.Code.wp Go.wpList Go.Fw.WL Go.Calls
theorem plcs_cons {xs : List Nat} {p : Nat} {r : List Nat} (h : p < xs.length) (hr : plcs xs p = some r) : ∃ r', sizeN xs p ≠ 0 ∧ r = p :: r' ∧ plcs xs (p + sizeN xs p) = some r' := by
  by_cases hs : sizeN xs p = 0
  · rw [plcs_bad h hs] at hr; simp at hr
  · rw [plcs_next h hs] at hr
    cases hq : plcs xs (p + sizeN xs p) with
    | none => rw [hq] at hr; simp at hr
    | some r' => rw [hq] at hr; simp at hr; exact ⟨r', hs, hr.symm, rfl⟩
theorem plcs_step {xs l : List Nat} {i : Nat} (h : i < xs.length) (hs : sizeN xs i ≠ 0) (hp : plcs xs 0 = (plcs xs i).map (l ++ ·)) : plcs xs 0 = (plcs xs (i + sizeN xs i)).map ((l ++ [i]) ++ ·) := by
  rw [hp, plcs_next h hs, Option.map_map]
  congr 1; funext r; simp
theorem isJump_of {xs : List Nat} {q : Nat} (h : cAt xs q = 14 ∨ cAt xs q = 15) : isJump xs q = true := by simpa [isJump] using h
def okJ (xs l : List Nat) (q : Nat) : Bool := !isJump xs q || l.contains (targetN xs q)
theorem okJ_j {xs l : List Nat} {q : Nat} (h : cAt xs q = 14 ∨ cAt xs q = 15) : okJ xs l q = l.contains (targetN xs q) := by
  have : isJump xs q = true := by simpa [isJump] using h
  simp [okJ, this]
theorem okJ_n {xs l : List Nat} {q : Nat} (h : ¬ (cAt xs q = 14 ∨ cAt xs q = 15)) : okJ xs l q = true := by
  have : isJump xs q = false := by simpa [isJump] using h
  simp [okJ, this]
theorem okJ_far {xs l : List Nat} {q : Nat} (h : cAt xs q = 14 ∨ cAt xs q = 15) (hl : placesN xs = some l) (hf : xs.length ≤ targetN xs q) : okJ xs l q = false := by
  rw [okJ_j h]
  cases hc : l.contains (targetN xs q) with
  | false => rfl
  | true =>
    have := (places_mem hl _ (by simpa using hc)).1
    omega
def chkV (xs : List Nat) : Value := .int .i64 (if chkN xs then 0 else 100)
theorem chk_len {xs : List Nat} (h : xs.length < 1 ∨ 1024 < xs.length) : chkV xs = .int .i64 100 := by
  have : chkN xs = false := by
    unfold chkN
    rcases h with h | h
    · have : ¬ 1 ≤ xs.length := by omega
      simp [this]
    · have : ¬ xs.length ≤ 1024 := by omega
      simp [this]
  rw [chkV, this]; rfl
theorem chk_none {xs : List Nat} (h : placesN xs = none) : chkV xs = .int .i64 100 := by
  have : chkN xs = false := by simp [chkN, h]
  rw [chkV, this]; rfl
theorem chk_bad {xs l : List Nat} {q : Nat} (h : placesN xs = some l) (hq : q ∈ l) (hb : okJ xs l q = false) : chkV xs = .int .i64 100 := by
  have : chkN xs = false := by
    simp only [chkN, h]
    cases hc : (l.all fun p => !isJump xs p || l.contains (targetN xs p)) with
    | false => simp
    | true =>
      have h2 := List.all_eq_true.1 hc q hq
      change okJ xs l q = true at h2
      rw [hb] at h2; simp at h2
  rw [chkV, this]; rfl
theorem chk_ok {xs l : List Nat} (h1 : ¬ (xs.length < 1 ∨ 1024 < xs.length)) (h : placesN xs = some l) (ha : l.all (okJ xs l) = true) : chkV xs = .int .i64 0 := by
  have : chkN xs = true := by
    have h2 : 1 ≤ xs.length := by omega
    have h3 : xs.length ≤ 1024 := by omega
    simp only [chkN, h, h2, h3, decide_true, Bool.true_and]
    exact ha
  rw [chkV, this]; rfl
theorem all_snoc {l : List Nat} {f : Nat → Bool} {q : Nat} (h : l.all f = true) (hq : f q = true) : (l ++ [q]).all f = true := by simp only [List.all_append, h, List.all_cons, hq, List.all_nil, Bool.and_self]
theorem all_take {l : List Nat} {f : Nat → Bool} {i : Nat} (hi : i < l.length) (h : (l.take i).all f = true) (hq : f (l.getD i 0) = true) : (l.take (i + 1)).all f = true := by
  rw [List.take_succ_eq_append_getElem hi]
  exact all_snoc h (by simpa [List.getD_eq_getElem?_getD, hi] using hq)
theorem getD_mem {l : List Nat} {i : Nat} (h : i < l.length) : l.getD i 0 ∈ l := by
  rw [List.getD_eq_getElem?_getD, List.getElem?_eq_getElem h]; exact List.getElem_mem h
/-- where instructions begin, as the machine notes it -/
def begs (l : List Nat) : List Value := (List.range 1025).map fun j => .bool (l.contains j)
theorem length_begs (l : List Nat) : (begs l).length = 1025 := by simp [begs]
theorem begs_at {l : List Nat} {j off : Nat} (h : j < 1025) (ho : off = j) : (begs l)[off]? = some (.bool (l.contains j)) := by subst ho; simp [begs, h]
theorem begs_set {l : List Nat} {i off : Nat} (ho : off = i) : (begs l).set off (.bool true) = begs (l ++ [i]) := by
  subst ho
  apply List.ext_getElem?
  intro j
  rw [List.getElem?_set]
  by_cases hj : j < 1025
  · rw [begs_at hj rfl, begs_at hj rfl, length_begs]
    by_cases e : off = j
    · subst e; simp [hj]
    · rw [if_neg e]
      have : ¬ j = off := fun h => e h.symm
      simp [this]
  · rw [List.getElem?_eq_none (by rw [length_begs]; omega), List.getElem?_eq_none (by rw [length_begs]; omega)]
    by_cases e : off = j
    · rw [if_pos e, if_neg (by rw [length_begs]; omega)]
    · rw [if_neg e]
theorem ze59b : zeT Try.prog 59 (.agg (begs []).toArray) := by unfold zeT; kernel_rfl

theorem places_calls (A : Option Addr) (n c : Nat) (xs : List Nat) (w0 : World) (hA : Rd w0 A (byts xs)) (hn : xs.length = n) (hnc : n ≤ c) (hc : c ≤ 9223372036854775807) (hB : Byt xs) (hn2 : n ≤ 1024) : Ret Try.prog 22 [.slice A n c] w0 [] (fun v s => RetP xs v s) := by
  refine fn_start Try.func22 rfl Try.ntmps22 rfl [(0, .slice A n c)] ⟨rfl, trivial⟩ ?_
  intro Q a hP hF hR hN
  have hS := St.start w0
  refine wp_seq_k fun K1 hK1 => ?_
  refine wp_region_lit ?_
  refine sv' hF (wn rfl) rfl rfl (R.assign (hF.ev rfl)) fun a hF => ?_
  refine sv' hF (wn rfl) rfl rfl (R.assign (hF.ev rfl)) fun a hF => ?_
  refine s0 ?_
  refine then_n (hK1 _ _ ?_)
  refine wp_seq_k fun K2 hK2 => ?_
  refine wp_region_lit ?_
  refine sv' hF (wn rfl) rfl rfl (R.assign (hF.ev rfl)) fun a hF => ?_
  refine s0 ?_
  refine then_n (hK2 _ _ ?_)
  refine wp_seq_k fun K3 hK3 => ?_
  have hS := hS.cons0
  refine wp_region_lit ?_
  refine sv' hF (wn rfl) rfl rfl (R.assign (hF.ev rfl)) fun a hF => ?_
  refine s0 ?_
  refine then_n (hK3 _ _ ?_)
  refine wp_seq_k fun K4 hK4 => ?_
  refine wp_block ?_
  refine wp_loop_N (fun g a w => ∃ (i : Nat) (A2 : Option Addr) (e : Nat) (z : Seg) (l : List Nat), n - i = g ∧ Fr 24 [(0, .slice A n c), (4, .slice A2 l.length e), (5, .int .i64 ((i : Nat) : Int))] a ∧ St w0 [] [z] w ∧ (i ≤ n) ∧ (plcs xs 0 = (plcs xs i).map (l ++ ·)) ∧ (l.length ≤ i) ∧ (OwnS z A2 l.length e (ints l) 3 1)) (n - 0) ?_ ?_
  · exact ⟨0, none, 0, [], [], rfl, hF.sub ⟨rfl, rfl, rfl, trivial⟩, hS.sel [0] rfl rfl, by omega, by simp, Nat.le_refl _, OwnS.nil 3 1⟩
  · rintro KL1 g a w ⟨i, A2, e, z, l, hg1, hF, hS, hi, hp, hll, hO⟩ hKL1
    refine wp_seq_k fun K5 hK5 => ?_
    refine wp_seq_k fun K6 hK6 => ?_
    refine wp_region_lit ?_
    refine sv' hF (wn rfl) rfl rfl (R.move (hF.ev rfl)) fun a hF => ?_
    refine sv' hF (wn rfl) rfl rfl (R.move (hF.ev rfl)) fun a hF => ?_
    refine sv' hF (wn rfl) rfl rfl (R.len Try.underlying23 (hF.ev rfl)) fun a hF => ?_
    refine sv' hF (wn rfl) rfl rfl (R.lss (hF.ev rfl) (hF.ev rfl)) fun a hF => ?_
    refine s0 ?_
    refine then_n (hK6 _ _ ?_)
    refine cD hF rfl (fun c1 => ?_) (fun c1 => ?_)
    ·
      have hsz := sizeN_le xs i
      refine wp_skip ?_
      refine then_n (hK5 _ _ ?_)
      refine wp_block ?_
      refine wp_seq_k fun K7 hK7 => ?_
      refine wp_region_lit ?_
      refine sv' hF (wn rfl) rfl rfl (R.move (hF.ev rfl)) fun a hF => ?_
      refine sv' hF (wn rfl) rfl rfl (R.move (hF.ev rfl)) fun a hF => ?_
      refine so (wn rfl) (O.call rfl rfl hF ent25 (hF.evs rfl) hS (rsize_calls A n c xs (i) w (hA.old hS) hn hnc hc hB (by omega)) fun v s13 a w hR hF hS => ?_)
      obtain ⟨rfl, rfl⟩ := hR
      refine sv' hF (wn rfl) rfl rfl (R.assign (hF.ev rfl)) fun a hF => ?_
      refine s0 ?_
      refine then_n (hK7 _ _ ?_)
      refine wp_seq_k fun K8 hK8 => ?_
      refine wp_seq_k fun K9 hK9 => ?_
      refine wp_region_lit ?_
      refine sv' hF (wn rfl) rfl rfl (R.move (hF.ev rfl)) fun a hF => ?_
      refine sv' hF (wn rfl) rfl rfl (R.eql (hF.ev rfl) (hF.ev rfl)) fun a hF => ?_
      refine s0 ?_
      refine then_n (hK9 _ _ ?_)
      refine cD hF rfl (fun c2 => ?_) (fun c2 => ?_)
      ·
        have hpl : placesN xs = none := by (have := hp; rw [plcs_bad (p := i) (by omega) (by omega)] at this; exact this)
        refine wp_seq_k fun K10 hK10 => ?_
        refine wp_region_lit ?_
        refine sv' hF (wn rfl) rfl rfl (R.assign (hF.ev rfl)) fun a hF => ?_
        refine sv' hF (wn rfl) rfl rfl (R.assign (hF.ev rfl)) fun a hF => ?_
        refine s0 ?_
        refine then_n (hK10 _ _ ?_)
        refine wp_ret (then_r (blk_r (then_r (blk_r (then_r (hR _ _ _ _ _ hF (run_results Try.results22 (.t hF rfl (.t hF rfl (.nil)))) ?_))))))
        exact ⟨_, [], rfl, RetP.none hpl, hS.none⟩
      ·
        have hs : sizeN xs i ≠ 0 := by omega
        refine wp_skip ?_
        refine then_n (hK8 _ _ ?_)
        refine wp_seq_k fun K11 hK11 => ?_
        refine wp_region_lit ?_
        refine sv' hF (wn rfl) rfl rfl (R.move (hF.ev rfl)) fun a hF => ?_
        refine sv' hF (wn rfl) rfl rfl (R.move (hF.ev rfl)) fun a hF => ?_
        refine so (wn rfl) (O.buildSlice (l := [_]) rfl rfl hF Try.underlying61 inf3 rfl rfl (hF.evp rfl) (by decide) rfl hS fun b18 a w hF hS => ?_)
        refine so (wn rfl) (O.append rfl rfl hF Try.underlying61 inf3 rfl rfl (by decide) (hF.ev rfl) (hF.ev rfl) hS hO (fun _ => (.t (.t .h))) (Rd.own0 hS .h) (rfl) (by simp [Value.oneCell']) (by unfold maxLen; omega) (by omega) fun A19 c19 s19 a w hO19 hF hS => ?_)
        refine sv' hF (wn rfl) rfl rfl (R.assign (hF.ev rfl)) fun a hF => ?_
        refine s0 ?_
        refine then_n (hK11 _ _ ?_)
        refine wp_region_lit ?_
        refine sv' hF (wn rfl) rfl rfl (R.move (hF.ev rfl)) fun a hF => ?_
        refine sv' hF (wn rfl) rfl rfl (R.move (hF.ev rfl)) fun a hF => ?_
        refine sv' hF (wn rfl) rfl rfl (R.addI (hF.ev rfl) (hF.ev rfl) (by omega)) fun a hF => ?_
        refine sv' hF (wn rfl) rfl rfl (R.assign (hF.ev rfl)) fun a hF => ?_
        refine s0 ?_
        refine blk_n ?_
        refine then_n (hKL1 (n - (i + sizeN xs i)) _ _ ?_ ?_)
        · omega
        · exact ⟨i + sizeN xs i, A19, c19, s19, l ++ [i], rfl, hF.sub ⟨rfl, (by rw [List.length_append]; rfl), (congrArg (fun z => some (Value.int .i64 z)) (by omega)), trivial⟩, hS.sel [2] rfl rfl, by have := (sizeN_le xs i).resolve_left hs; omega, plcs_step (by omega) hs hp, by rw [List.length_append, List.length_singleton]; omega, own_isnoc hO19⟩
    ·
      have hpl : placesN xs = some l := by (have := hp; rw [plcs_end (p := i) (by omega)] at this; exact this.trans (by simp))
      refine wp_exit (then_x (then_x (blk_hit ?_)))
      refine then_n (hK4 _ _ ?_)
      refine wp_seq_k fun K12 hK12 => ?_
      refine wp_region_lit ?_
      refine sv' hF (wn rfl) rfl rfl (R.move (hF.ev rfl)) fun a hF => ?_
      refine sv' hF (wn rfl) rfl rfl (R.assign (hF.ev rfl)) fun a hF => ?_
      refine sv' hF (wn rfl) rfl rfl (R.assign (hF.ev rfl)) fun a hF => ?_
      refine s0 ?_
      refine then_n (hK12 _ _ ?_)
      refine wp_ret (hR _ _ _ _ _ hF (run_results Try.results22 (.t hF rfl (.t hF rfl (.nil)))) ?_)
      exact ⟨_, z, rfl, RetP.some hpl hO, hS.one .h⟩

theorem places_none (A : Option Addr) (n c : Nat) (xs : List Nat) (w0 : World) (hA : Rd w0 A (byts xs)) (hn : xs.length = n) (hnc : n ≤ c) (hc : c ≤ 9223372036854775807) (hB : Byt xs) (hn2 : n ≤ 1024) (h : placesN xs = none) : Ret Try.prog 22 [.slice A n c] w0 [] (fun v s => v = .tuple #[.slice none 0 0, .bool false] ∧ s = []) := by
  have := places_calls A n c xs w0 hA hn hnc hc hB hn2
  simpa only [RetP, h] using this
theorem places_some (A : Option Addr) (n c : Nat) (xs l : List Nat) (w0 : World) (hA : Rd w0 A (byts xs)) (hn : xs.length = n) (hnc : n ≤ c) (hc : c ≤ 9223372036854775807) (hB : Byt xs) (hn2 : n ≤ 1024) (h : placesN xs = some l) : Ret Try.prog 22 [.slice A n c] w0 [] (fun v s => ∃ A c, v = .tuple #[.slice A l.length c, .bool true] ∧ OwnS s A l.length c (ints l) 3 1) := by
  have := places_calls A n c xs w0 hA hn hnc hc hB hn2
  simpa only [RetP, h] using this

theorem rcheck_none (A : Option Addr) (n c : Nat) (xs : List Nat) (w0 : World) (hA : Rd w0 A (byts xs)) (hn : xs.length = n) (hnc : n ≤ c) (hc : c ≤ 9223372036854775807) (hB : Byt xs) (hpl : placesN xs = none) : Ret Try.prog 13 [.slice A n c] w0 [] (fun v s => v = chkV xs ∧ s = []) := by
  refine fn_start Try.func13 rfl Try.ntmps13 rfl [(0, .slice A n c)] ⟨rfl, trivial⟩ ?_
  intro Q a hP hF hR hN
  have hS := St.start w0
  refine wp_seq_k fun K1 hK1 => ?_
  refine wp_region_lit ?_
  refine sv' hF (wn rfl) rfl rfl (R.assign (hF.ev rfl)) fun a hF => ?_
  refine s0 ?_
  refine then_n (hK1 _ _ ?_)
  refine wp_seq_k fun K2 hK2 => ?_
  refine wp_seq_k fun K3 hK3 => ?_
  have hK3' : ∀ a w, (Fr 53 [(0, .slice A n c), (14, .bool (decide (n < 1 ∨ 1024 < n)))] a ∧ St w0 [] [] w) → K3 a w := by
    rintro a w ⟨hF, hS⟩
    refine hK3 _ _ ?_
    refine cD hF rfl (fun c1 => ?_) (fun c1 => ?_)
    ·
      refine wp_seq_k fun K4 hK4 => ?_
      refine wp_region_lit ?_
      refine sv' hF (wn rfl) rfl rfl (R.assign (hF.ev rfl)) fun a hF => ?_
      refine s0 ?_
      refine then_n (hK4 _ _ ?_)
      refine wp_ret (then_r (hR _ _ _ _ _ hF (run_results Try.results13 (.t hF rfl (.nil))) ?_))
      exact ⟨_, [], rfl, ⟨(chk_len (by omega)).symm, rfl⟩, hS.none⟩
    ·
      refine wp_skip ?_
      refine then_n (hK2 _ _ ?_)
      refine wp_seq_k fun K5 hK5 => ?_
      refine wp_region_lit ?_
      refine sv' hF (wn rfl) rfl rfl (R.move (hF.ev rfl)) fun a hF => ?_
      refine so (wn rfl) (O.call rfl rfl hF ent22 (hF.evs rfl) hS (places_none A n c xs w (hA.old hS) hn hnc hc hB (by omega) hpl) fun v s17 a w hR hF hS => ?_)
      obtain ⟨rfl, rfl⟩ := hR
      refine sv' hF (wn rfl) rfl rfl (R.move (hF.ev rfl)) fun a hF => ?_
      refine sv' hF (wn rfl) rfl rfl (R.extract (hF.ev rfl) rfl) fun a hF => ?_
      refine sv' hF (wn rfl) rfl rfl (R.extract (hF.ev rfl) rfl) fun a hF => ?_
      refine sv' hF (wn rfl) rfl rfl (R.assign (hF.ev rfl)) fun a hF => ?_
      refine sv' hF (wn rfl) rfl rfl (R.assign (hF.ev rfl)) fun a hF => ?_
      refine s0 ?_
      refine then_n (hK5 _ _ ?_)
      refine wp_seq_k fun K6 hK6 => ?_
      refine wp_seq_k fun K7 hK7 => ?_
      refine wp_region_lit ?_
      refine sv' hF (wn rfl) rfl rfl (R.move (hF.ev rfl)) fun a hF => ?_
      refine sv' hF (wn rfl) rfl rfl ((by first | exact R.notD (hF.ev rfl) | exact R.not (hF.ev rfl))) fun a hF => ?_
      refine s0 ?_
      refine then_n (hK7 _ _ ?_)
      refine cT hF rfl ?_
      refine wp_seq_k fun K8 hK8 => ?_
      refine wp_region_lit ?_
      refine sv' hF (wn rfl) rfl rfl (R.assign (hF.ev rfl)) fun a hF => ?_
      refine s0 ?_
      refine then_n (hK8 _ _ ?_)
      refine wp_ret (then_r (hR _ _ _ _ _ hF (run_results Try.results13 (.t hF rfl (.nil))) ?_))
      exact ⟨_, [], rfl, ⟨(chk_none hpl).symm, rfl⟩, hS.none⟩
  refine wp_region_lit ?_
  refine sv' hF (wn rfl) rfl rfl (R.move (hF.ev rfl)) fun a hF => ?_
  refine sv' hF (wn rfl) rfl rfl (R.len Try.underlying23 (hF.ev rfl)) fun a hF => ?_
  refine sv' hF (wn rfl) rfl rfl (R.lss (hF.ev rfl) (hF.ev rfl)) fun a hF => ?_
  refine sv' hF (wn rfl) rfl rfl (R.move (hF.ev rfl)) fun a hF => ?_
  refine hF.splitD (t := 10) rfl (fun h10 hF => ?_) (fun h10 hF => ?_)
  ·
    refine sk hF (ws hF rfl rfl rfl rfl) rfl rfl fun a hF => ?_
    refine sk hF (ws hF rfl rfl rfl rfl) rfl rfl fun a hF => ?_
    refine sk hF (ws hF rfl rfl rfl rfl) rfl rfl fun a hF => ?_
    refine sv' hF (wn rfl) rfl rfl (R.pickT (hF.ev rfl) (hF.ev rfl)) fun a hF => ?_
    refine s0 ?_
    exact then_n (hK3' _ _ ⟨hF.sub ⟨rfl, (congrArg (fun z => some (Value.bool z)) (by first | exact (decide_eq_true (by omega)).symm | exact (decide_eq_false (by omega)).symm | exact decide_eq_decide.2 (by omega))), trivial⟩, hS.sel [] rfl rfl⟩)
  ·
    refine sv' hF (wy hF rfl rfl rfl) rfl rfl (R.move (hF.ev rfl)) fun a hF => ?_
    refine sv' hF (wy hF rfl rfl rfl) rfl rfl (R.len Try.underlying23 (hF.ev rfl)) fun a hF => ?_
    refine sv' hF (wy hF rfl rfl rfl) rfl rfl (R.gtr (hF.ev rfl) (hF.ev rfl)) fun a hF => ?_
    refine sv' hF (wn rfl) rfl rfl (R.pickF (hF.ev rfl) (hF.ev rfl)) fun a hF => ?_
    refine s0 ?_
    exact then_n (hK3' _ _ ⟨hF.sub ⟨rfl, (congrArg (fun z => some (Value.bool z)) (by first | exact (decide_eq_true (by omega)).symm | exact (decide_eq_false (by omega)).symm | exact decide_eq_decide.2 (by omega))), trivial⟩, hS.sel [] rfl rfl⟩)

set_option maxHeartbeats 1000000 in
theorem rcheck_some (A : Option Addr) (n c : Nat) (xs : List Nat) (l : List Nat) (w0 : World) (hA : Rd w0 A (byts xs)) (hn : xs.length = n) (hnc : n ≤ c) (hc : c ≤ 9223372036854775807) (hB : Byt xs) (hpl : placesN xs = some l) : Ret Try.prog 13 [.slice A n c] w0 [] (fun v s => v = chkV xs ∧ s = []) := by
  refine fn_start Try.func13 rfl Try.ntmps13 rfl [(0, .slice A n c)] ⟨rfl, trivial⟩ ?_
  intro Q a hP hF hR hN
  have hS := St.start w0
  refine wp_seq_k fun K1 hK1 => ?_
  refine wp_region_lit ?_
  refine sv' hF (wn rfl) rfl rfl (R.assign (hF.ev rfl)) fun a hF => ?_
  refine s0 ?_
  refine then_n (hK1 _ _ ?_)
  refine wp_seq_k fun K2 hK2 => ?_
  refine wp_seq_k fun K3 hK3 => ?_
  have hK3' : ∀ a w, (Fr 53 [(0, .slice A n c), (14, .bool (decide (n < 1 ∨ 1024 < n)))] a ∧ St w0 [] [] w) → K3 a w := by
    rintro a w ⟨hF, hS⟩
    refine hK3 _ _ ?_
    refine cD hF rfl (fun c1 => ?_) (fun c1 => ?_)
    ·
      refine wp_seq_k fun K4 hK4 => ?_
      refine wp_region_lit ?_
      refine sv' hF (wn rfl) rfl rfl (R.assign (hF.ev rfl)) fun a hF => ?_
      refine s0 ?_
      refine then_n (hK4 _ _ ?_)
      refine wp_ret (then_r (hR _ _ _ _ _ hF (run_results Try.results13 (.t hF rfl (.nil))) ?_))
      exact ⟨_, [], rfl, ⟨(chk_len (by omega)).symm, rfl⟩, hS.none⟩
    ·
      refine wp_skip ?_
      refine then_n (hK2 _ _ ?_)
      refine wp_seq_k fun K5 hK5 => ?_
      refine wp_region_lit ?_
      refine sv' hF (wn rfl) rfl rfl (R.move (hF.ev rfl)) fun a hF => ?_
      refine so (wn rfl) (O.call rfl rfl hF ent22 (hF.evs rfl) hS (places_some A n c xs l w (hA.old hS) hn hnc hc hB (by omega) hpl) fun v s17 a w hR hF hS => ?_)
      obtain ⟨A17, c17, rfl, hO17⟩ := hR
      refine sv' hF (wn rfl) rfl rfl (R.move (hF.ev rfl)) fun a hF => ?_
      refine sv' hF (wn rfl) rfl rfl (R.extract (hF.ev rfl) rfl) fun a hF => ?_
      refine sv' hF (wn rfl) rfl rfl (R.extract (hF.ev rfl) rfl) fun a hF => ?_
      refine sv' hF (wn rfl) rfl rfl (R.assign (hF.ev rfl)) fun a hF => ?_
      refine sv' hF (wn rfl) rfl rfl (R.assign (hF.ev rfl)) fun a hF => ?_
      refine s0 ?_
      refine then_n (hK5 _ _ ?_)
      refine wp_seq_k fun K6 hK6 => ?_
      refine wp_seq_k fun K7 hK7 => ?_
      refine wp_region_lit ?_
      refine sv' hF (wn rfl) rfl rfl (R.move (hF.ev rfl)) fun a hF => ?_
      refine sv' hF (wn rfl) rfl rfl ((by first | exact R.notD (hF.ev rfl) | exact R.not (hF.ev rfl))) fun a hF => ?_
      refine s0 ?_
      refine then_n (hK7 _ _ ?_)
      refine cF hF rfl ?_
      refine wp_skip ?_
      refine then_n (hK6 _ _ ?_)
      refine wp_seq_k fun K8 hK8 => ?_
      refine wp_seq_k fun K9 hK9 => ?_
      refine wp_region_lit ?_
      refine sv' hF (wn rfl) rfl rfl (R.assign (hF.ev rfl)) fun a hF => ?_
      refine s0 ?_
      refine then_n (hK9 _ _ ?_)
      refine wp_block ?_
      refine wp_loop_N (fun g a w => ∃ (i : Nat), l.length - i = g ∧ Fr 53 [(0, .slice A n c), (3, .slice A17 l.length c17), (5, .int .i64 ((i : Nat) : Int))] a ∧ St w0 [] [s17] w ∧ (i ≤ l.length) ∧ ((l.take i).all (okJ xs l) = true)) (l.length - 0) ?_ ?_
      · exact ⟨0, rfl, hF.sub ⟨rfl, rfl, rfl, trivial⟩, hS.sel [0] rfl rfl, by omega, rfl⟩
      · rintro KL1 g a w ⟨i, hg1, hF, hS, hi, ha⟩ hKL1
        have hc17 : c17 ≤ 9223372036854775807 := hO17.cap; have hn17 := hO17.2.1
        refine wp_seq_k fun K10 hK10 => ?_
        refine wp_seq_k fun K11 hK11 => ?_
        refine wp_region_lit ?_
        refine sv' hF (wn rfl) rfl rfl (R.move (hF.ev rfl)) fun a hF => ?_
        refine sv' hF (wn rfl) rfl rfl (R.move (hF.ev rfl)) fun a hF => ?_
        refine sv' hF (wn rfl) rfl rfl (R.len Try.underlying61 (hF.ev rfl)) fun a hF => ?_
        refine sv' hF (wn rfl) rfl rfl (R.lss (hF.ev rfl) (hF.ev rfl)) fun a hF => ?_
        refine s0 ?_
        refine then_n (hK11 _ _ ?_)
        refine cD hF rfl (fun c2 => ?_) (fun c2 => ?_)
        ·
          have hq := places_mem hpl _ (getD_mem (l := l) (i := i) (by omega)); have hq1 := hq.1; have hq2 := hq.2; have hb := cAt_lt hB (l.getD i 0)
          refine wp_skip ?_
          refine then_n (hK10 _ _ ?_)
          refine wp_seq_k fun K12 hK12 => ?_
          refine wp_block ?_
          refine wp_seq_k fun K13 hK13 => ?_
          refine wp_region_lit ?_
          refine sv' hF (wn rfl) rfl rfl (R.move (hF.ev rfl)) fun a hF => ?_
          refine sv' hF (wn rfl) rfl rfl (R.move (hF.ev rfl)) fun a hF => ?_
          refine sv' hF (wn rfl) rfl rfl (R.move (hF.ev rfl)) fun a hF => ?_
          refine sv' hF (wn rfl) rfl rfl (R.indexO Try.underlying61 sz3 (hF.ev rfl) ((hO17.rd hS .h).ne (by rw [length_ints]; omega)) (hF.ev rfl) (by omega) (by omega)) fun a hF => ?_
          refine sv' hF (wn rfl) rfl rfl (R.loadO one3 (hF.ev rfl) (hO17.rd hS .h) (ints_get (i := i) (by omega) (by omega))) fun a hF => ?_
          refine sv' hF (wn rfl) rfl rfl (R.indexO Try.underlying23 sz5 (hF.ev rfl) (Rd.ne hA (by rw [length_byts]; omega)) (hF.ev rfl) (by omega) (by omega)) fun a hF => ?_
          refine sv' hF (wn rfl) rfl rfl (R.loadO one5 (hF.ev rfl) (hA.old hS) (cb_at (i := (l.getD i 0)) (by omega) (by omega))) fun a hF => ?_
          refine sv' hF (wn rfl) rfl rfl (R.convI Try.underlying5 Try.underlying3 (hF.ev rfl) (by omega)) fun a hF => ?_
          refine sv' hF (wn rfl) rfl rfl (R.assign (hF.ev rfl)) fun a hF => ?_
          refine s0 ?_
          refine then_n (hK13 _ _ ?_)
          refine wp_seq_k fun K14 hK14 => ?_
          have hK14' : ∀ a w, (Fr 53 [(0, .slice A n c), (3, .slice A17 l.length c17), (5, .int .i64 ((i : Nat) : Int)), (52, .bool (!okJ xs l (l.getD i 0)))] a ∧ St w0 [] [s17] w) → K14 a w := by
            rintro a w ⟨hF, hS⟩
            refine hK14 _ _ ?_
            refine cS hF rfl (fun c3 => ?_) (fun c3 => ?_)
            ·
              have hok : okJ xs l (l.getD i 0) = false := by simpa using c3
              refine wp_seq_k fun K15 hK15 => ?_
              refine wp_region_lit ?_
              refine sv' hF (wn rfl) rfl rfl (R.assign (hF.ev rfl)) fun a hF => ?_
              refine s0 ?_
              refine then_n (hK15 _ _ ?_)
              refine wp_ret (blk_r (then_r (then_r (blk_r (then_r (hR _ _ _ _ _ hF (run_results Try.results13 (.t hF rfl (.nil))) ?_))))))
              exact ⟨_, [], rfl, ⟨(chk_bad hpl (getD_mem (i := i) (by omega)) hok).symm, rfl⟩, hS.none⟩
            ·
              have hok : okJ xs l (l.getD i 0) = true := by simpa using c3
              refine wp_skip ?_
              refine blk_n ?_
              refine then_n (hK12 _ _ ?_)
              refine wp_region_lit ?_
              refine sv' hF (wn rfl) rfl rfl (R.move (hF.ev rfl)) fun a hF => ?_
              refine sv' hF (wn rfl) rfl rfl (R.addI (hF.ev rfl) (hF.ev rfl) (by omega)) fun a hF => ?_
              refine sv' hF (wn rfl) rfl rfl (R.assign (hF.ev rfl)) fun a hF => ?_
              refine s0 ?_
              refine then_n (hKL1 (l.length - (i + 1)) _ _ ?_ ?_)
              · omega
              · exact ⟨i + 1, rfl, hF.sub ⟨rfl, rfl, (congrArg (fun z => some (Value.int .i64 z)) (by omega)), trivial⟩, hS.sel [0] rfl rfl, by omega, all_take (by omega) ha hok⟩
          refine wp_region_lit ?_
          refine sv' hF (wn rfl) rfl rfl (R.move (hF.ev rfl)) fun a hF => ?_
          refine sv' hF (wn rfl) rfl rfl (R.eql (hF.ev rfl) (hF.ev rfl)) fun a hF => ?_
          refine sv' hF (wn rfl) rfl rfl (R.move (hF.ev rfl)) fun a hF => ?_
          refine hF.splitD (t := 38) rfl (fun h38 hF => ?_) (fun h38 hF => ?_)
          ·
            refine sk hF (ws hF rfl rfl rfl rfl) rfl rfl fun a hF => ?_
            refine sk hF (ws hF rfl rfl rfl rfl) rfl rfl fun a hF => ?_
            refine sv' hF (wn rfl) rfl rfl (R.pickT (hF.ev rfl) (hF.ev rfl)) fun a hF => ?_
            refine sv' hF (wn rfl) rfl rfl (R.move (hF.ev rfl)) fun a hF => ?_
            refine sv' hF (wy hF rfl rfl rfl) rfl rfl (R.move (hF.ev rfl)) fun a hF => ?_
            refine sv' hF (wy hF rfl rfl rfl) rfl rfl (R.move (hF.ev rfl)) fun a hF => ?_
            refine sv' hF (wy hF rfl rfl rfl) rfl rfl (R.move (hF.ev rfl)) fun a hF => ?_
            refine sv' hF (wy hF rfl rfl rfl) rfl rfl (R.move (hF.ev rfl)) fun a hF => ?_
            refine sv' hF (wy hF rfl rfl rfl) rfl rfl (R.indexO Try.underlying61 sz3 (hF.ev rfl) ((hO17.rd hS .h).ne (by rw [length_ints]; omega)) (hF.ev rfl) (by omega) (by omega)) fun a hF => ?_
            refine sv' hF (wy hF rfl rfl rfl) rfl rfl (R.loadO one3 (hF.ev rfl) (hO17.rd hS .h) (ints_get (i := i) (by omega) (by omega))) fun a hF => ?_
            refine so (wy hF rfl rfl rfl) (O.call rfl rfl hF ent24 (hF.evs rfl) hS (rtarget_calls A n c xs (l.getD i 0) w (hA.old hS) hn hnc hc hB (by have := (jump_size (xs := xs) (p := (l.getD i 0)) (by omega) hq2 (isJump_of (by omega))); omega)) fun v s49 a w hR hF hS => ?_)
            obtain ⟨rfl, rfl⟩ := hR
            refine so (wy hF rfl rfl rfl) (O.call rfl rfl hF ent23 (hF.evs rfl) hS (among_calls A17 l.length c17 (targetN xs (l.getD i 0)) l w (hO17.rd hS (.t .h)) rfl (by have := hO17.2.1; have := hO17.cap; omega)) fun v s50 a w hR hF hS => ?_)
            obtain ⟨rfl, rfl⟩ := hR
            refine sv' hF (wy hF rfl rfl rfl) rfl rfl ((by first | exact R.notD (hF.ev rfl) | exact R.not (hF.ev rfl))) fun a hF => ?_
            refine sv' hF (wn rfl) rfl rfl (R.pickT (hF.ev rfl) (hF.ev rfl)) fun a hF => ?_
            refine s0 ?_
            exact then_n (hK14' _ _ ⟨hF.sub ⟨rfl, rfl, rfl, (by first | (rw [okJ_j (by omega)]; rfl) | (rw [okJ_n (by omega)]; rfl)), trivial⟩, hS.sel [2] rfl rfl⟩)
          ·
            refine sv' hF (wy hF rfl rfl rfl) rfl rfl (R.move (hF.ev rfl)) fun a hF => ?_
            refine sv' hF (wy hF rfl rfl rfl) rfl rfl (R.eql (hF.ev rfl) (hF.ev rfl)) fun a hF => ?_
            refine sv' hF (wn rfl) rfl rfl (R.pickF (hF.ev rfl) (hF.ev rfl)) fun a hF => ?_
            refine sv' hF (wn rfl) rfl rfl (R.move (hF.ev rfl)) fun a hF => ?_
            refine hF.splitD (t := 42) rfl (fun h42 hF => ?_) (fun h42 hF => ?_)
            ·
              refine sv' hF (wy hF rfl rfl rfl) rfl rfl (R.move (hF.ev rfl)) fun a hF => ?_
              refine sv' hF (wy hF rfl rfl rfl) rfl rfl (R.move (hF.ev rfl)) fun a hF => ?_
              refine sv' hF (wy hF rfl rfl rfl) rfl rfl (R.move (hF.ev rfl)) fun a hF => ?_
              refine sv' hF (wy hF rfl rfl rfl) rfl rfl (R.move (hF.ev rfl)) fun a hF => ?_
              refine sv' hF (wy hF rfl rfl rfl) rfl rfl (R.indexO Try.underlying61 sz3 (hF.ev rfl) ((hO17.rd hS .h).ne (by rw [length_ints]; omega)) (hF.ev rfl) (by omega) (by omega)) fun a hF => ?_
              refine sv' hF (wy hF rfl rfl rfl) rfl rfl (R.loadO one3 (hF.ev rfl) (hO17.rd hS .h) (ints_get (i := i) (by omega) (by omega))) fun a hF => ?_
              refine so (wy hF rfl rfl rfl) (O.call rfl rfl hF ent24 (hF.evs rfl) hS (rtarget_calls A n c xs (l.getD i 0) w (hA.old hS) hn hnc hc hB (by have := (jump_size (xs := xs) (p := (l.getD i 0)) (by omega) hq2 (isJump_of (by omega))); omega)) fun v s49 a w hR hF hS => ?_)
              obtain ⟨rfl, rfl⟩ := hR
              refine so (wy hF rfl rfl rfl) (O.call rfl rfl hF ent23 (hF.evs rfl) hS (among_calls A17 l.length c17 (targetN xs (l.getD i 0)) l w (hO17.rd hS (.t .h)) rfl (by have := hO17.2.1; have := hO17.cap; omega)) fun v s50 a w hR hF hS => ?_)
              obtain ⟨rfl, rfl⟩ := hR
              refine sv' hF (wy hF rfl rfl rfl) rfl rfl ((by first | exact R.notD (hF.ev rfl) | exact R.not (hF.ev rfl))) fun a hF => ?_
              refine sv' hF (wn rfl) rfl rfl (R.pickT (hF.ev rfl) (hF.ev rfl)) fun a hF => ?_
              refine s0 ?_
              exact then_n (hK14' _ _ ⟨hF.sub ⟨rfl, rfl, rfl, (by first | (rw [okJ_j (by omega)]; rfl) | (rw [okJ_n (by omega)]; rfl)), trivial⟩, hS.sel [2] rfl rfl⟩)
            ·
              refine sk hF (ws hF rfl rfl rfl rfl) rfl rfl fun a hF => ?_
              refine sk hF (ws hF rfl rfl rfl rfl) rfl rfl fun a hF => ?_
              refine sk hF (ws hF rfl rfl rfl rfl) rfl rfl fun a hF => ?_
              refine sk hF (ws hF rfl rfl rfl rfl) rfl rfl fun a hF => ?_
              refine sk hF (ws hF rfl rfl rfl rfl) rfl rfl fun a hF => ?_
              refine sk hF (ws hF rfl rfl rfl rfl) rfl rfl fun a hF => ?_
              refine sk hF (ws hF rfl rfl rfl rfl) rfl rfl fun a hF => ?_
              refine sk hF (ws hF rfl rfl rfl rfl) rfl rfl fun a hF => ?_
              refine sk hF (ws hF rfl rfl rfl rfl) rfl rfl fun a hF => ?_
              refine sv' hF (wn rfl) rfl rfl (R.pickF (hF.ev rfl) (hF.ev rfl)) fun a hF => ?_
              refine s0 ?_
              exact then_n (hK14' _ _ ⟨hF.sub ⟨rfl, rfl, rfl, (by first | (rw [okJ_j (by omega)]; rfl) | (rw [okJ_n (by omega)]; rfl)), trivial⟩, hS.sel [0] rfl rfl⟩)
        ·
          obtain rfl : i = l.length := by omega
          rw [List.take_length] at ha
          refine wp_exit (then_x (then_x (blk_hit ?_)))
          refine then_n (hK8 _ _ ?_)
          refine wp_seq_k fun K16 hK16 => ?_
          refine wp_region_lit ?_
          refine sv' hF (wn rfl) rfl rfl (R.assign (hF.ev rfl)) fun a hF => ?_
          refine s0 ?_
          refine then_n (hK16 _ _ ?_)
          refine wp_ret (hR _ _ _ _ _ hF (run_results Try.results13 (.t hF rfl (.nil))) ?_)
          exact ⟨_, [], rfl, ⟨(chk_ok (by omega) hpl ha).symm, rfl⟩, hS.none⟩
  refine wp_region_lit ?_
  refine sv' hF (wn rfl) rfl rfl (R.move (hF.ev rfl)) fun a hF => ?_
  refine sv' hF (wn rfl) rfl rfl (R.len Try.underlying23 (hF.ev rfl)) fun a hF => ?_
  refine sv' hF (wn rfl) rfl rfl (R.lss (hF.ev rfl) (hF.ev rfl)) fun a hF => ?_
  refine sv' hF (wn rfl) rfl rfl (R.move (hF.ev rfl)) fun a hF => ?_
  refine hF.splitD (t := 10) rfl (fun h10 hF => ?_) (fun h10 hF => ?_)
  ·
    refine sk hF (ws hF rfl rfl rfl rfl) rfl rfl fun a hF => ?_
    refine sk hF (ws hF rfl rfl rfl rfl) rfl rfl fun a hF => ?_
    refine sk hF (ws hF rfl rfl rfl rfl) rfl rfl fun a hF => ?_
    refine sv' hF (wn rfl) rfl rfl (R.pickT (hF.ev rfl) (hF.ev rfl)) fun a hF => ?_
    refine s0 ?_
    exact then_n (hK3' _ _ ⟨hF.sub ⟨rfl, (congrArg (fun z => some (Value.bool z)) (by first | exact (decide_eq_true (by omega)).symm | exact (decide_eq_false (by omega)).symm | exact decide_eq_decide.2 (by omega))), trivial⟩, hS.sel [] rfl rfl⟩)
  ·
    refine sv' hF (wy hF rfl rfl rfl) rfl rfl (R.move (hF.ev rfl)) fun a hF => ?_
    refine sv' hF (wy hF rfl rfl rfl) rfl rfl (R.len Try.underlying23 (hF.ev rfl)) fun a hF => ?_
    refine sv' hF (wy hF rfl rfl rfl) rfl rfl (R.gtr (hF.ev rfl) (hF.ev rfl)) fun a hF => ?_
    refine sv' hF (wn rfl) rfl rfl (R.pickF (hF.ev rfl) (hF.ev rfl)) fun a hF => ?_
    refine s0 ?_
    exact then_n (hK3' _ _ ⟨hF.sub ⟨rfl, (congrArg (fun z => some (Value.bool z)) (by first | exact (decide_eq_true (by omega)).symm | exact (decide_eq_false (by omega)).symm | exact decide_eq_decide.2 (by omega))), trivial⟩, hS.sel [] rfl rfl⟩)

theorem rcheck_calls (A : Option Addr) (n c : Nat) (xs : List Nat) (w0 : World) (hA : Rd w0 A (byts xs)) (hn : xs.length = n) (hnc : n ≤ c) (hc : c ≤ 9223372036854775807) (hB : Byt xs) : Ret Try.prog 13 [.slice A n c] w0 [] (fun v s => v = chkV xs ∧ s = []) := by
  cases h : placesN xs with
  | none => exact rcheck_none A n c xs w0 hA hn hnc hc hB h
  | some l => exact rcheck_some A n c xs l w0 hA hn hnc hc hB h

set_option maxHeartbeats 1000000 in
theorem check_calls (A : Option Addr) (n c : Nat) (xs : List Nat) (w0 : World) (hA : Rd w0 A (byts xs)) (hn : xs.length = n) (hnc : n ≤ c) (hc : c ≤ 9223372036854775807) (hB : Byt xs) : Ret Try.prog 12 [.slice A n c] w0 [] (fun v s => v = chkV xs ∧ s = []) := by
  refine fn_start Try.func12 rfl Try.ntmps12 rfl [(0, .slice A n c)] ⟨rfl, trivial⟩ ?_
  intro Q a hP hF hR hN
  have hS := St.start w0
  refine wp_seq_k fun K1 hK1 => ?_
  refine wp_region_lit ?_
  refine sv' hF (wn rfl) rfl rfl (R.assign (hF.ev rfl)) fun a hF => ?_
  refine s0 ?_
  refine then_n (hK1 _ _ ?_)
  refine wp_seq_k fun K2 hK2 => ?_
  refine wp_seq_k fun K3 hK3 => ?_
  have hK3' : ∀ a w, (Fr 64 [(0, .slice A n c), (15, .bool (decide (n = 0 ∨ 1024 < n)))] a ∧ St w0 [] [] w) → K3 a w := by
    rintro a w ⟨hF, hS⟩
    refine hK3 _ _ ?_
    refine cD hF rfl (fun c1 => ?_) (fun c1 => ?_)
    ·
      refine wp_seq_k fun K4 hK4 => ?_
      refine wp_region_lit ?_
      refine sv' hF (wn rfl) rfl rfl (R.assign (hF.ev rfl)) fun a hF => ?_
      refine s0 ?_
      refine then_n (hK4 _ _ ?_)
      refine wp_ret (then_r (hR _ _ _ _ _ hF (run_results Try.results12 (.t hF rfl (.nil))) ?_))
      exact ⟨_, [], rfl, ⟨(chk_len (by omega)).symm, rfl⟩, hS.none⟩
    ·
      refine wp_skip ?_
      refine then_n (hK2 _ _ ?_)
      refine wp_seq_k fun K5 hK5 => ?_
      refine wp_region_lit ?_
      refine so (wn rfl) (O.alloc rfl rfl hF ze59b rfl hS fun b3 a w hF hS => ?_)
      refine s0 ?_
      refine then_n (hK5 _ _ ?_)
      refine wp_seq_k fun K6 hK6 => ?_
      refine wp_seq_k fun K7 hK7 => ?_
      refine wp_region_lit ?_
      refine sv' hF (wn rfl) rfl rfl (R.assign (hF.ev rfl)) fun a hF => ?_
      refine s0 ?_
      refine then_n (hK7 _ _ ?_)
      refine wp_block ?_
      refine wp_loop_N (fun g a w => ∃ (i : Nat) (l : List Nat), n - i = g ∧ Fr 64 [(0, .slice A n c), (3, .pointer (some ⟨b3, 0, none⟩)), (4, .int .i64 ((i : Nat) : Int))] a ∧ St w0 [] [[(b3, Cel (begs l) 59)]] w ∧ (i ≤ n) ∧ (plcs xs 0 = (plcs xs i).map (l ++ ·))) (n - 0) ?_ ?_
      · exact ⟨0, [], rfl, hF.sub ⟨rfl, rfl, rfl, trivial⟩, hS.sel [0] rfl rfl, by omega, by simp⟩
      · rintro KL1 g a w ⟨i, l, hg1, hF, hS, hi, hp⟩ hKL1
        refine wp_seq_k fun K8 hK8 => ?_
        refine wp_seq_k fun K9 hK9 => ?_
        refine wp_region_lit ?_
        refine sv' hF (wn rfl) rfl rfl (R.move (hF.ev rfl)) fun a hF => ?_
        refine sv' hF (wn rfl) rfl rfl (R.move (hF.ev rfl)) fun a hF => ?_
        refine sv' hF (wn rfl) rfl rfl (R.len Try.underlying23 (hF.ev rfl)) fun a hF => ?_
        refine sv' hF (wn rfl) rfl rfl (R.lss (hF.ev rfl) (hF.ev rfl)) fun a hF => ?_
        refine s0 ?_
        refine then_n (hK9 _ _ ?_)
        refine cD hF rfl (fun c2 => ?_) (fun c2 => ?_)
        ·
          have hsz := sizeN_le xs i
          refine wp_skip ?_
          refine then_n (hK8 _ _ ?_)
          refine wp_block ?_
          refine wp_seq_k fun K10 hK10 => ?_
          refine wp_region_lit ?_
          refine sv' hF (wn rfl) rfl rfl (R.move (hF.ev rfl)) fun a hF => ?_
          refine sv' hF (wn rfl) rfl rfl (R.move (hF.ev rfl)) fun a hF => ?_
          refine so (wn rfl) (O.call rfl rfl hF ent20 (hF.evs rfl) hS (size_calls A n c xs (i) w (hA.old hS) hn hnc hc hB (by omega)) fun v s22 a w hR hF hS => ?_)
          obtain ⟨rfl, rfl⟩ := hR
          refine sv' hF (wn rfl) rfl rfl (R.assign (hF.ev rfl)) fun a hF => ?_
          refine s0 ?_
          refine then_n (hK10 _ _ ?_)
          refine wp_seq_k fun K11 hK11 => ?_
          refine wp_seq_k fun K12 hK12 => ?_
          refine wp_region_lit ?_
          refine sv' hF (wn rfl) rfl rfl (R.move (hF.ev rfl)) fun a hF => ?_
          refine sv' hF (wn rfl) rfl rfl (R.eql (hF.ev rfl) (hF.ev rfl)) fun a hF => ?_
          refine s0 ?_
          refine then_n (hK12 _ _ ?_)
          refine cD hF rfl (fun c3 => ?_) (fun c3 => ?_)
          ·
            have hpl : placesN xs = none := by (have := hp; rw [plcs_bad (p := i) (by omega) (by omega)] at this; exact this)
            refine wp_seq_k fun K13 hK13 => ?_
            refine wp_region_lit ?_
            refine sv' hF (wn rfl) rfl rfl (R.assign (hF.ev rfl)) fun a hF => ?_
            refine s0 ?_
            refine then_n (hK13 _ _ ?_)
            refine wp_ret (then_r (blk_r (then_r (blk_r (then_r (hR _ _ _ _ _ hF (run_results Try.results12 (.t hF rfl (.nil))) ?_))))))
            exact ⟨_, [], rfl, ⟨(chk_none hpl).symm, rfl⟩, hS.none⟩
          ·
            have hs : sizeN xs i ≠ 0 := by omega
            refine wp_skip ?_
            refine then_n (hK11 _ _ ?_)
            refine wp_seq_k fun K14 hK14 => ?_
            refine wp_region_lit ?_
            refine sv' hF (wn rfl) rfl rfl (R.move (hF.ev rfl)) fun a hF => ?_
            refine sv' hF (wn rfl) rfl rfl (R.indexA Try.underlying59 sz4 (hF.ev rfl) (hF.ev rfl) (by omega) (by omega)) fun a hF => ?_
            refine so (wn rfl) (O.store sz4 (hF.ev rfl) (hF.ev rfl) rfl rfl hS (.t .h) (begs_set (i := i) (by omega)) (by rw [length_begs]; omega) fun w hS => ?_)
            refine s0 ?_
            refine then_n (hK14 _ _ ?_)
            refine wp_region_lit ?_
            refine sv' hF (wn rfl) rfl rfl (R.move (hF.ev rfl)) fun a hF => ?_
            refine sv' hF (wn rfl) rfl rfl (R.move (hF.ev rfl)) fun a hF => ?_
            refine sv' hF (wn rfl) rfl rfl (R.addI (hF.ev rfl) (hF.ev rfl) (by omega)) fun a hF => ?_
            refine sv' hF (wn rfl) rfl rfl (R.assign (hF.ev rfl)) fun a hF => ?_
            refine s0 ?_
            refine blk_n ?_
            refine then_n (hKL1 (n - (i + sizeN xs i)) _ _ ?_ ?_)
            · omega
            · exact ⟨i + sizeN xs i, l ++ [i], rfl, hF.sub ⟨rfl, rfl, (congrArg (fun z => some (Value.int .i64 z)) (by omega)), trivial⟩, hS.sel [1] rfl rfl, by have := (sizeN_le xs i).resolve_left hs; omega, plcs_step (by omega) hs hp⟩
        ·
          have hpl : placesN xs = some l := by (have := hp; rw [plcs_end (p := i) (by omega)] at this; exact this.trans (by simp))
          refine wp_exit (then_x (then_x (blk_hit ?_)))
          refine then_n (hK6 _ _ ?_)
          refine wp_seq_k fun K15 hK15 => ?_
          refine wp_seq_k fun K16 hK16 => ?_
          refine wp_region_lit ?_
          refine sv' hF (wn rfl) rfl rfl (R.assign (hF.ev rfl)) fun a hF => ?_
          refine s0 ?_
          refine then_n (hK16 _ _ ?_)
          refine wp_block ?_
          refine wp_loop_N (fun g a w => ∃ (j : Nat) (m : List Nat) (r : List Nat), n - j = g ∧ Fr 64 [(0, .slice A n c), (3, .pointer (some ⟨b3, 0, none⟩)), (6, .int .i64 ((j : Nat) : Int))] a ∧ St w0 [] [[(b3, Cel (begs l) 59)]] w ∧ (j ≤ n) ∧ (plcs xs j = some r) ∧ (l = m ++ r) ∧ (m.all (okJ xs l) = true)) (n - 0) ?_ ?_
          · exact ⟨0, [], l, rfl, hF.sub ⟨rfl, rfl, rfl, trivial⟩, hS.sel [0] rfl rfl, by omega, hpl, rfl, rfl⟩
          · rintro KL2 g a w ⟨j, m, r, hg2, hF, hS, hj, hr, hlr, hm⟩ hKL2
            refine wp_seq_k fun K17 hK17 => ?_
            refine wp_seq_k fun K18 hK18 => ?_
            refine wp_region_lit ?_
            refine sv' hF (wn rfl) rfl rfl (R.move (hF.ev rfl)) fun a hF => ?_
            refine sv' hF (wn rfl) rfl rfl (R.move (hF.ev rfl)) fun a hF => ?_
            refine sv' hF (wn rfl) rfl rfl (R.len Try.underlying23 (hF.ev rfl)) fun a hF => ?_
            refine sv' hF (wn rfl) rfl rfl (R.lss (hF.ev rfl) (hF.ev rfl)) fun a hF => ?_
            refine s0 ?_
            refine then_n (hK18 _ _ ?_)
            refine cD hF rfl (fun c4 => ?_) (fun c4 => ?_)
            ·
              obtain ⟨r', hs2, rfl, hr2⟩ := plcs_cons (by omega) hr
              have hb := cAt_lt hB j; have htl := targetN_lt hB j; have hsz := sizeN_le xs j
              refine wp_skip ?_
              refine then_n (hK17 _ _ ?_)
              refine wp_seq_k fun K19 hK19 => ?_
              have hK19' : ∀ a w, (Fr 64 [(0, .slice A n c), (3, .pointer (some ⟨b3, 0, none⟩)), (6, .int .i64 ((j : Nat) : Int))] a ∧ St w0 [] [[(b3, Cel (begs l) 59)]] w ∧ (okJ xs l j = true)) → K19 a w := by
                rintro a w ⟨hF, hS, hok⟩
                refine hK19 _ _ ?_
                refine wp_region_lit ?_
                refine sv' hF (wn rfl) rfl rfl (R.move (hF.ev rfl)) fun a hF => ?_
                refine sv' hF (wn rfl) rfl rfl (R.move (hF.ev rfl)) fun a hF => ?_
                refine sv' hF (wn rfl) rfl rfl (R.move (hF.ev rfl)) fun a hF => ?_
                refine so (wn rfl) (O.call rfl rfl hF ent20 (hF.evs rfl) hS (size_calls A n c xs (j) w (hA.old hS) hn hnc hc hB (by omega)) fun v s37 a w hR hF hS => ?_)
                obtain ⟨rfl, rfl⟩ := hR
                refine sv' hF (wn rfl) rfl rfl (R.addI (hF.ev rfl) (hF.ev rfl) (by omega)) fun a hF => ?_
                refine sv' hF (wn rfl) rfl rfl (R.assign (hF.ev rfl)) fun a hF => ?_
                refine s0 ?_
                refine then_n (hKL2 (n - (j + sizeN xs j)) _ _ ?_ ?_)
                · omega
                · exact ⟨j + sizeN xs j, m ++ [j], r', rfl, hF.sub ⟨rfl, rfl, (congrArg (fun z => some (Value.int .i64 z)) (by omega)), trivial⟩, hS.sel [1] rfl rfl, by have := (sizeN_le xs j).resolve_left hs2; omega, hr2, by rw [hlr]; simp, all_snoc hm hok⟩
              refine wp_block ?_
              refine wp_seq_k fun K20 hK20 => ?_
              refine wp_seq_k fun K21 hK21 => ?_
              have hK21' : ∀ a w, (Fr 64 [(0, .slice A n c), (3, .pointer (some ⟨b3, 0, none⟩)), (6, .int .i64 ((j : Nat) : Int)), (50, .bool (decide (cAt xs j ≠ 14 ∧ cAt xs j ≠ 15)))] a ∧ St w0 [] [[(b3, Cel (begs l) 59)]] w) → K21 a w := by
                rintro a w ⟨hF, hS⟩
                refine hK21 _ _ ?_
                refine cD hF rfl (fun c5 => ?_) (fun c5 => ?_)
                ·
                  refine wp_exit (then_x (blk_hit ?_))
                  exact then_n (hK19' _ _ ⟨hF.sub ⟨rfl, rfl, rfl, trivial⟩, hS.sel [0] rfl rfl, okJ_n (by omega)⟩)
                ·
                  refine wp_skip ?_
                  refine then_n (hK20 _ _ ?_)
                  refine wp_seq_k fun K22 hK22 => ?_
                  refine wp_region_lit ?_
                  refine sv' hF (wn rfl) rfl rfl (R.move (hF.ev rfl)) fun a hF => ?_
                  refine sv' hF (wn rfl) rfl rfl (R.move (hF.ev rfl)) fun a hF => ?_
                  refine so (wn rfl) (O.call rfl rfl hF ent21 (hF.evs rfl) hS (target_calls A n c xs j w (hA.old hS) hn hnc hc hB (by have := (jump_size (xs := xs) (p := j) (by omega) hs2 (isJump_of (by omega))); omega)) fun v s53 a w hR hF hS => ?_)
                  obtain ⟨rfl, rfl⟩ := hR
                  refine sv' hF (wn rfl) rfl rfl (R.assign (hF.ev rfl)) fun a hF => ?_
                  refine s0 ?_
                  refine then_n (hK22 _ _ ?_)
                  refine wp_seq_k fun K23 hK23 => ?_
                  have hK23' : ∀ a w, (Fr 64 [(0, .slice A n c), (3, .pointer (some ⟨b3, 0, none⟩)), (6, .int .i64 ((j : Nat) : Int)), (63, .bool (!okJ xs l j))] a ∧ St w0 [] [[(b3, Cel (begs l) 59)]] w) → K23 a w := by
                    rintro a w ⟨hF, hS⟩
                    refine hK23 _ _ ?_
                    refine cS hF rfl (fun c6 => ?_) (fun c6 => ?_)
                    ·
                      have hok : okJ xs l j = false := by simpa using c6
                      refine wp_seq_k fun K24 hK24 => ?_
                      refine wp_region_lit ?_
                      refine sv' hF (wn rfl) rfl rfl (R.assign (hF.ev rfl)) fun a hF => ?_
                      refine s0 ?_
                      refine then_n (hK24 _ _ ?_)
                      refine wp_ret (blk_r (then_r (then_r (blk_r (then_r (hR _ _ _ _ _ hF (run_results Try.results12 (.t hF rfl (.nil))) ?_))))))
                      exact ⟨_, [], rfl, ⟨(chk_bad hpl (by rw [hlr]; simp) hok).symm, rfl⟩, hS.none⟩
                    ·
                      have hok : okJ xs l j = true := by simpa using c6
                      refine wp_skip ?_
                      refine blk_n ?_
                      exact then_n (hK19' _ _ ⟨hF.sub ⟨rfl, rfl, rfl, trivial⟩, hS.sel [0] rfl rfl, hok⟩)
                  refine wp_region_lit ?_
                  refine sv' hF (wn rfl) rfl rfl (R.move (hF.ev rfl)) fun a hF => ?_
                  refine sv' hF (wn rfl) rfl rfl (R.move (hF.ev rfl)) fun a hF => ?_
                  refine sv' hF (wn rfl) rfl rfl (R.len Try.underlying23 (hF.ev rfl)) fun a hF => ?_
                  refine sv' hF (wn rfl) rfl rfl (R.geq (hF.ev rfl) (hF.ev rfl)) fun a hF => ?_
                  refine sv' hF (wn rfl) rfl rfl (R.move (hF.ev rfl)) fun a hF => ?_
                  refine hF.splitD (t := 58) rfl (fun h58 hF => ?_) (fun h58 hF => ?_)
                  ·
                    refine sk hF (ws hF rfl rfl rfl rfl) rfl rfl fun a hF => ?_
                    refine sk hF (ws hF rfl rfl rfl rfl) rfl rfl fun a hF => ?_
                    refine sk hF (ws hF rfl rfl rfl rfl) rfl rfl fun a hF => ?_
                    refine sk hF (ws hF rfl rfl rfl rfl) rfl rfl fun a hF => ?_
                    refine sv' hF (wn rfl) rfl rfl (R.pickT (hF.ev rfl) (hF.ev rfl)) fun a hF => ?_
                    refine s0 ?_
                    exact then_n (hK23' _ _ ⟨hF.sub ⟨rfl, rfl, rfl, (by first | (rw [okJ_far (by omega) hpl (by omega)]; rfl) | (rw [okJ_j (by omega)]; rfl)), trivial⟩, hS.sel [1] rfl rfl⟩)
                  ·
                    refine sv' hF (wy hF rfl rfl rfl) rfl rfl (R.move (hF.ev rfl)) fun a hF => ?_
                    refine sv' hF (wy hF rfl rfl rfl) rfl rfl (R.indexA Try.underlying59 sz4 (hF.ev rfl) (hF.ev rfl) (by omega) (by omega)) fun a hF => ?_
                    refine sv' hF (wy hF rfl rfl rfl) rfl rfl (R.load one4 (hF.ev rfl) hS (.t .h) (begs_at (j := targetN xs j) (by omega) (by omega))) fun a hF => ?_
                    refine sv' hF (wy hF rfl rfl rfl) rfl rfl ((by first | exact R.notD (hF.ev rfl) | exact R.not (hF.ev rfl))) fun a hF => ?_
                    refine sv' hF (wn rfl) rfl rfl (R.pickF (hF.ev rfl) (hF.ev rfl)) fun a hF => ?_
                    refine s0 ?_
                    exact then_n (hK23' _ _ ⟨hF.sub ⟨rfl, rfl, rfl, (by first | (rw [okJ_far (by omega) hpl (by omega)]; rfl) | (rw [okJ_j (by omega)]; rfl)), trivial⟩, hS.sel [1] rfl rfl⟩)
              refine wp_region_lit ?_
              refine sv' hF (wn rfl) rfl rfl (R.move (hF.ev rfl)) fun a hF => ?_
              refine sv' hF (wn rfl) rfl rfl (R.move (hF.ev rfl)) fun a hF => ?_
              refine sv' hF (wn rfl) rfl rfl (R.indexO Try.underlying23 sz5 (hF.ev rfl) (Rd.ne hA (by rw [length_byts]; omega)) (hF.ev rfl) (by omega) (by omega)) fun a hF => ?_
              refine sv' hF (wn rfl) rfl rfl (R.loadO one5 (hF.ev rfl) (hA.old hS) (cb_at (i := j) (by omega) (by omega))) fun a hF => ?_
              refine sv' hF (wn rfl) rfl rfl (R.neq (hF.ev rfl) (hF.ev rfl)) fun a hF => ?_
              refine sv' hF (wn rfl) rfl rfl (R.move (hF.ev rfl)) fun a hF => ?_
              refine hF.splitD (t := 44) rfl (fun h44 hF => ?_) (fun h44 hF => ?_)
              ·
                refine sv' hF (wy hF rfl rfl rfl) rfl rfl (R.move (hF.ev rfl)) fun a hF => ?_
                refine sv' hF (wy hF rfl rfl rfl) rfl rfl (R.move (hF.ev rfl)) fun a hF => ?_
                refine sv' hF (wy hF rfl rfl rfl) rfl rfl (R.indexO Try.underlying23 sz5 (hF.ev rfl) (Rd.ne hA (by rw [length_byts]; omega)) (hF.ev rfl) (by omega) (by omega)) fun a hF => ?_
                refine sv' hF (wy hF rfl rfl rfl) rfl rfl (R.loadO one5 (hF.ev rfl) (hA.old hS) (cb_at (i := j) (by omega) (by omega))) fun a hF => ?_
                refine sv' hF (wy hF rfl rfl rfl) rfl rfl (R.neq (hF.ev rfl) (hF.ev rfl)) fun a hF => ?_
                refine sv' hF (wn rfl) rfl rfl (R.pickT (hF.ev rfl) (hF.ev rfl)) fun a hF => ?_
                refine s0 ?_
                exact then_n (hK21' _ _ ⟨hF.sub ⟨rfl, rfl, rfl, (congrArg (fun z => some (Value.bool z)) (by first | exact (decide_eq_true (by omega)).symm | exact (decide_eq_false (by omega)).symm | exact decide_eq_decide.2 (by omega))), trivial⟩, hS.sel [0] rfl rfl⟩)
              ·
                refine sk hF (ws hF rfl rfl rfl rfl) rfl rfl fun a hF => ?_
                refine sk hF (ws hF rfl rfl rfl rfl) rfl rfl fun a hF => ?_
                refine sk hF (ws hF rfl rfl rfl rfl) rfl rfl fun a hF => ?_
                refine sk hF (ws hF rfl rfl rfl rfl) rfl rfl fun a hF => ?_
                refine sk hF (ws hF rfl rfl rfl rfl) rfl rfl fun a hF => ?_
                refine sv' hF (wn rfl) rfl rfl (R.pickF (hF.ev rfl) (hF.ev rfl)) fun a hF => ?_
                refine s0 ?_
                exact then_n (hK21' _ _ ⟨hF.sub ⟨rfl, rfl, rfl, (congrArg (fun z => some (Value.bool z)) (by first | exact (decide_eq_true (by omega)).symm | exact (decide_eq_false (by omega)).symm | exact decide_eq_decide.2 (by omega))), trivial⟩, hS.sel [0] rfl rfl⟩)
            ·
              have hre : r = [] := by (rw [plcs_end (p := j) (by omega)] at hr; simpa using hr.symm)
              subst hre
              rw [List.append_nil] at hlr
              subst hlr
              refine wp_exit (then_x (then_x (blk_hit ?_)))
              refine then_n (hK15 _ _ ?_)
              refine wp_seq_k fun K25 hK25 => ?_
              refine wp_region_lit ?_
              refine sv' hF (wn rfl) rfl rfl (R.assign (hF.ev rfl)) fun a hF => ?_
              refine s0 ?_
              refine then_n (hK25 _ _ ?_)
              refine wp_ret (hR _ _ _ _ _ hF (run_results Try.results12 (.t hF rfl (.nil))) ?_)
              exact ⟨_, [], rfl, ⟨(chk_ok (by omega) hpl hm).symm, rfl⟩, hS.none⟩
  refine wp_region_lit ?_
  refine sv' hF (wn rfl) rfl rfl (R.move (hF.ev rfl)) fun a hF => ?_
  refine sv' hF (wn rfl) rfl rfl (R.len Try.underlying23 (hF.ev rfl)) fun a hF => ?_
  refine sv' hF (wn rfl) rfl rfl (R.eql (hF.ev rfl) (hF.ev rfl)) fun a hF => ?_
  refine sv' hF (wn rfl) rfl rfl (R.move (hF.ev rfl)) fun a hF => ?_
  refine hF.splitD (t := 11) rfl (fun h11 hF => ?_) (fun h11 hF => ?_)
  ·
    refine sk hF (ws hF rfl rfl rfl rfl) rfl rfl fun a hF => ?_
    refine sk hF (ws hF rfl rfl rfl rfl) rfl rfl fun a hF => ?_
    refine sk hF (ws hF rfl rfl rfl rfl) rfl rfl fun a hF => ?_
    refine sv' hF (wn rfl) rfl rfl (R.pickT (hF.ev rfl) (hF.ev rfl)) fun a hF => ?_
    refine s0 ?_
    exact then_n (hK3' _ _ ⟨hF.sub ⟨rfl, (congrArg (fun z => some (Value.bool z)) (by first | exact (decide_eq_true (by omega)).symm | exact (decide_eq_false (by omega)).symm | exact decide_eq_decide.2 (by omega))), trivial⟩, hS.sel [] rfl rfl⟩)
  ·
    refine sv' hF (wy hF rfl rfl rfl) rfl rfl (R.move (hF.ev rfl)) fun a hF => ?_
    refine sv' hF (wy hF rfl rfl rfl) rfl rfl (R.len Try.underlying23 (hF.ev rfl)) fun a hF => ?_
    refine sv' hF (wy hF rfl rfl rfl) rfl rfl (R.gtr (hF.ev rfl) (hF.ev rfl)) fun a hF => ?_
    refine sv' hF (wn rfl) rfl rfl (R.pickF (hF.ev rfl) (hF.ev rfl)) fun a hF => ?_
    refine s0 ?_
    exact then_n (hK3' _ _ ⟨hF.sub ⟨rfl, (congrArg (fun z => some (Value.bool z)) (by first | exact (decide_eq_true (by omega)).symm | exact (decide_eq_false (by omega)).symm | exact decide_eq_decide.2 (by omega))), trivial⟩, hS.sel [] rfl rfl⟩)

end Go.Proofs.Ytlapmbkfmbkdoaa
