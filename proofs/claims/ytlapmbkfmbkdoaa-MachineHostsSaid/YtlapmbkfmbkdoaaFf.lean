/- Lists of questions compared; whether a program looks at its gas. -/
import Derived.Test.YtlapmbkfmbkdoaaFb
import Derived.Test.YtlapmbkfmbkdoaaFc
namespace Go.Proofs.Ytlapmbkfmbkdoaa
open Go Go.Fw Go.RowKit
attribute [local irreducible] Go.Oper.wp Go.Code.wp Go.wpList Go.Fw.WL Go.Calls
theorem eg72 : Try.prog.eqGuardType Try.prog.depth 72 = false := by kernel_rfl
theorem eg39 : Try.prog.eqGuardType Try.prog.depth 39 = false := by kernel_rfl
theorem st72 : Try.prog.stoodInHeld 72 = false := by kernel_rfl
theorem st39 : Try.prog.stoodInHeld 39 = false := by kernel_rfl
theorem eq_ints {P : Program} {T E : TypeId} {k : IntKind} {len d : Nat} (hT : P.underlying T = some (.array len E)) (hE : P.underlying E = some (.int k)) (h1 : oneT P E = true) (hs : szT P E 1) (xs : Array Value) (u : Nat → Int) (hx : ∀ i, i < len → xs[i]? = some (.int k (u i))) : EqOk P (d + 2) T (.agg xs) (.agg xs) true := by
  have h := eq_arr (d := d + 1) hT hs xs xs (fun _ => true) (fun i => .int k (u i)) (fun i => .int k (u i)) (fun i hi w => run_part1 h1 (by rw [Nat.mul_one]; exact hx i hi)) (fun i hi w => run_part1 h1 (by rw [Nat.mul_one]; exact hx i hi)) (fun i _ w => by
    have := eq_int (P := P) (d := d) hE (u i) (u i) w
    rwa [decide_eq_true rfl] at this)
  have e : ((List.range len).all fun _ => true) = true := by simp
  rw [e] at h; exact h
theorem eq_int1 {P : Program} {T : TypeId} {k : IntKind} {d : Nat} (hT : P.underlying T = some (.int k)) (a : Int) : EqOk P (d + 1) T (.int k a) (.int k a) true := fun w => by
  have := eq_int (P := P) (d := d) hT a a w
  rwa [decide_eq_true rfl] at this
theorem eq_wide {d : Nat} (x : Nat) : EqOk Try.prog (d + 2) 31 (wv x) (wv x) true :=
  eq_ints Try.underlying31 Try.underlying29 one29 sz29 _ (fun i => ((dg x i : Nat) : Int)) fun i hi => by simpa using wc_at x i hi
theorem eq_addr {d : Nat} (f : Nat → Nat) : EqOk Try.prog (d + 2) 28 (.agg (adc f).toArray) (.agg (adc f).toArray) true :=
  eq_ints Try.underlying28 Try.underlying5 one5 sz5 _ (fun i => ((f i : Nat) : Int)) fun i hi => by
    have hE : adc f = (List.range 20).map fun i => Value.int .u8 ((f i : Nat) : Int) := rfl
    rw [hE]; simp [hi]
theorem ran_eq (v : Nat) (g : Int) : EqOk Try.prog Op.maxDepth 39 (.agg (wc v ++ [Value.int .i64 g]).toArray) (.agg (wc v ++ [Value.int .i64 g]).toArray) true := by
  have h := eq_str (P := Try.prog) (d := 9999) Try.underlying39 st39 (wc v ++ [Value.int .i64 g]).toArray (wc v ++ [Value.int .i64 g]).toArray (fun _ => true) (fun f => if f.offset = 0 then wv v else .int .i64 g) (fun f => if f.offset = 0 then wv v else .int .i64 g) (by
      intro f hf; simp at hf; rcases hf with rfl | rfl <;> decide)
    (by intro f hf w; simp at hf; rcases hf with rfl | rfl
        · exact run_partA agg31 sz31
        · exact run_part1 one3 rfl)
    (by intro f hf w; simp at hf; rcases hf with rfl | rfl
        · exact run_partA agg31 sz31
        · exact run_part1 one3 rfl)
    (by intro f hf; simp at hf; rcases hf with rfl | rfl
        · exact eq_wide v
        · exact eq_int1 Try.underlying3 g)
  exact h
theorem arr_at {l : List Value} {i : Nat} {v : Value} (h : l[i]? = some v) : l.toArray[i]? = some v := by simpa using h
theorem ask_eq' (k t : Int) (a b : Nat) (f : Nat → Nat) : EqOk Try.prog Op.maxDepth 72 (.agg (.int .i64 k :: (wc a ++ (wc b ++ (.int .i64 t :: adc f)))).toArray) (.agg (.int .i64 k :: (wc a ++ (wc b ++ (.int .i64 t :: adc f)))).toArray) true := by
  have p0 : ∀ w, (part 3 (.int .i64 k :: (wc a ++ (wc b ++ (.int .i64 t :: adc f)))).toArray 0).run Try.prog w = .ok (.int .i64 k) w := fun w => run_part1 (v := .int .i64 k) one3 (arr_at (List.getElem?_cons_zero ..))
  have p9 : ∀ w, (part 3 (.int .i64 k :: (wc a ++ (wc b ++ (.int .i64 t :: adc f)))).toArray 9).run Try.prog w = .ok (.int .i64 t) w := fun w => run_part1 one3 (arr_at rfl)
  have p1 : ∀ w, (part 31 (.int .i64 k :: (wc a ++ (wc b ++ (.int .i64 t :: adc f)))).toArray 1).run Try.prog w = .ok (wv a) w := fun w => run_partA agg31 sz31
  have p5 : ∀ w, (part 31 (.int .i64 k :: (wc a ++ (wc b ++ (.int .i64 t :: adc f)))).toArray 5).run Try.prog w = .ok (wv b) w := fun w => run_partA agg31 sz31
  have p10 : ∀ w, (part 28 (.int .i64 k :: (wc a ++ (wc b ++ (.int .i64 t :: adc f)))).toArray 10).run Try.prog w = .ok (.agg (adc f).toArray) w := fun w => by
    rw [run_partA agg28 sz28]
    simp [wc, adc]
  generalize (.int .i64 k :: (wc a ++ (wc b ++ (.int .i64 t :: adc f)))).toArray = X at *
  have h : ∀ u : Field → Value, (∀ f' : Field, f'.offset = 0 → u f' = .int .i64 k) → (∀ f' : Field, f'.offset = 1 → u f' = wv a) → (∀ f' : Field, f'.offset = 5 → u f' = wv b) → (∀ f' : Field, f'.offset = 9 → u f' = .int .i64 t) → (∀ f' : Field, f'.offset = 10 → u f' = .agg (adc f).toArray) → EqOk Try.prog (9999 + 1) 72 (.agg X) (.agg X) true := by
    intro u u0 u1 u5 u9 u10
    have h := eq_str (P := Try.prog) (d := 9999) Try.underlying72 st72 X X (fun _ => true) u u (by
        intro f hf; simp only [List.mem_cons, List.not_mem_nil, or_false] at hf; rcases hf with rfl | rfl | rfl | rfl | rfl <;> decide)
      (by intro f hf w; simp only [List.mem_cons, List.not_mem_nil, or_false] at hf; rcases hf with rfl | rfl | rfl | rfl | rfl
          · rw [u0 _ rfl]; exact p0 w
          · rw [u1 _ rfl]; exact p1 w
          · rw [u5 _ rfl]; exact p5 w
          · rw [u9 _ rfl]; exact p9 w
          · rw [u10 _ rfl]; exact p10 w)
      (by intro f hf w; simp only [List.mem_cons, List.not_mem_nil, or_false] at hf; rcases hf with rfl | rfl | rfl | rfl | rfl
          · rw [u0 _ rfl]; exact p0 w
          · rw [u1 _ rfl]; exact p1 w
          · rw [u5 _ rfl]; exact p5 w
          · rw [u9 _ rfl]; exact p9 w
          · rw [u10 _ rfl]; exact p10 w)
      (by intro f hf; simp only [List.mem_cons, List.not_mem_nil, or_false] at hf; rcases hf with rfl | rfl | rfl | rfl | rfl
          · rw [u0 _ rfl]; exact eq_int1 Try.underlying3 _
          · rw [u1 _ rfl]; exact eq_wide _
          · rw [u5 _ rfl]; exact eq_wide _
          · rw [u9 _ rfl]; exact eq_int1 Try.underlying3 _
          · rw [u10 _ rfl]; exact eq_addr _)
    exact h
  refine h (fun f' => if f'.offset = 0 then .int .i64 k else if f'.offset = 1 then wv a else if f'.offset = 5 then wv b else if f'.offset = 9 then .int .i64 t else .agg (adc f).toArray) ?_ ?_ ?_ ?_ ?_ <;> intro f' h <;> simp [h]
theorem ask_eq (q : Fw.Ask) : EqOk Try.prog Op.maxDepth 72 (.agg (askc q).toArray) (.agg (askc q).toArray) true := ask_eq' q.kind q.token q.a q.b (adF q.who)
def ask0 : Fw.Ask := ⟨0, 0, 0, 0, 0⟩
theorem asks_length (l : List Fw.Ask) : (l.flatMap askc).length = l.length * 30 := by
  induction l with
  | nil => rfl
  | cons r l ih => rw [List.flatMap_cons, List.length_append, ih, List.length_cons]; show 30 + _ = _; omega
theorem asks_at {l : List Fw.Ask} {k off : Nat} (hk : k < l.length) (ho : off = k * 30) : ∀ j v, (askc (l.getD k ask0))[j]? = some v → (l.flatMap askc)[off + j]? = some v := by
  subst ho
  induction l generalizing k with
  | nil => simp at hk
  | cons r l ih =>
    intro j v h
    have hj : j < 30 := by
      have := (List.getElem?_eq_some_iff.1 h).1
      exact this
    cases k with
    | zero =>
      rw [List.flatMap_cons, List.getElem?_append_left (by show _ < 30; omega), Nat.zero_mul, Nat.zero_add]
      simpa using h
    | succ k =>
      rw [List.flatMap_cons, List.getElem?_append_right (by show 30 ≤ _; omega)]
      have := ih (k := k) (by simpa using hk) j v (by simpa using h)
      rw [← this]
      congr 1
      show (k + 1) * 30 + j - 30 = k * 30 + j
      omega
def looksL : Option (List Nat) → List Nat → Bool
  | none, _ => true
  | some l, xs => l.any fun p => cAt xs p == 23
theorem looks_end {xs : List Nat} {p : Nat} (h : xs.length ≤ p) : looksL (plcs xs p) xs = false := by rw [plcs_end h]; rfl
theorem looks_bad {xs : List Nat} {p : Nat} (h : p < xs.length) (hs : sizeN xs p = 0) : looksL (plcs xs p) xs = true := by rw [plcs_bad h hs]; rfl
theorem looks_hit {xs : List Nat} {p : Nat} (h : p < xs.length) (hs : cAt xs p = 23) : looksL (plcs xs p) xs = true := by
  by_cases h0 : sizeN xs p = 0
  · exact looks_bad h h0
  · rw [plcs_next h h0]
    cases plcs xs (p + sizeN xs p) with
    | none => rfl
    | some r => simp [looksL, hs]
theorem looks_next {xs : List Nat} {p : Nat} (h : p < xs.length) (h0 : sizeN xs p ≠ 0) (hs : cAt xs p ≠ 23) : looksL (plcs xs (p + sizeN xs p)) xs = looksL (plcs xs p) xs := by
  rw [plcs_next h h0]
  cases plcs xs (p + sizeN xs p) with
  | none => rfl
  | some r => simp [looksL, hs]
theorem unlit_of {xs : List Nat} (h : looksL (plcs xs 0) xs = false) : Unlit xs := by
  intro p hv hp h23
  rcases hv with hv | ⟨l, hl, hm⟩
  · omega
  · have e : plcs xs 0 = some l := hl
    rw [e] at h
    have h2 : (l.any fun p => cAt xs p == 23) = true := List.any_eq_true.2 ⟨p, hm, by simp [h23]⟩
    have h3 : (l.any fun p => cAt xs p == 23) = false := h
    rw [h2] at h3; simp at h3

theorem sameAsks_calls (A B : Option Addr) (c c2 : Nat) (l : List Fw.Ask) (w0 : World) (hA : Rd w0 A (l.flatMap askc)) (hB : Rd w0 B (l.flatMap askc)) (hl : l.length ≤ 9223372036854775807) : Ret Try.prog 16 [.slice A l.length c, .slice B l.length c2] w0 [] (fun v s => v = .bool true ∧ s = []) := by
  refine fn_start Try.func16 rfl Try.ntmps16 rfl [(0, .slice A l.length c), (1, .slice B l.length c2)] ⟨rfl, rfl, trivial⟩ ?_
  intro Q a hP hF hR hN
  have hS := St.start w0
  refine wp_seq_k fun K1 hK1 => ?_
  refine wp_region_lit ?_
  refine sv' hF (wn rfl) rfl rfl (R.assign (hF.ev rfl)) fun a hF => ?_
  refine s0 ?_
  refine then_n (hK1 _ _ ?_)
  refine wp_seq_k fun K2 hK2 => ?_
  refine wp_seq_k fun K3 hK3 => ?_
  refine wp_region_lit ?_
  refine sv' hF (wn rfl) rfl rfl (R.move (hF.ev rfl)) fun a hF => ?_
  refine sv' hF (wn rfl) rfl rfl (R.len Try.underlying40 (hF.ev rfl)) fun a hF => ?_
  refine sv' hF (wn rfl) rfl rfl (R.move (hF.ev rfl)) fun a hF => ?_
  refine sv' hF (wn rfl) rfl rfl (R.len Try.underlying40 (hF.ev rfl)) fun a hF => ?_
  refine sv' hF (wn rfl) rfl rfl (R.as (u := .bool false) (R.neq (p := ((l.length : Nat) : Int)) (q := ((l.length : Nat) : Int)) (hF.ev rfl) (hF.ev rfl)) (congrArg Value.bool (decide_eq_false (fun h => h (rfl))))) fun a hF => ?_
  refine s0 ?_
  refine then_n (hK3 _ _ ?_)
  refine cF hF rfl ?_
  refine wp_skip ?_
  refine then_n (hK2 _ _ ?_)
  refine wp_seq_k fun K4 hK4 => ?_
  refine wp_seq_k fun K5 hK5 => ?_
  refine wp_region_lit ?_
  refine sv' hF (wn rfl) rfl rfl (R.assign (hF.ev rfl)) fun a hF => ?_
  refine s0 ?_
  refine then_n (hK5 _ _ ?_)
  refine wp_block ?_
  refine wp_loop_N (fun g a w => ∃ (i : Nat), l.length - i = g ∧ Fr 26 [(0, .slice A l.length c), (1, .slice B l.length c2), (5, .int .i64 ((i : Nat) : Int))] a ∧ St w0 [] [] w ∧ (i ≤ l.length)) (l.length - 0) ?_ ?_
  · exact ⟨0, rfl, hF.sub ⟨rfl, rfl, rfl, trivial⟩, hS.sel [] rfl rfl, by omega⟩
  · rintro KL1 g a w ⟨i, hg1, hF, hS, hi⟩ hKL1
    refine wp_seq_k fun K6 hK6 => ?_
    refine wp_seq_k fun K7 hK7 => ?_
    refine wp_region_lit ?_
    refine sv' hF (wn rfl) rfl rfl (R.move (hF.ev rfl)) fun a hF => ?_
    refine sv' hF (wn rfl) rfl rfl (R.move (hF.ev rfl)) fun a hF => ?_
    refine sv' hF (wn rfl) rfl rfl (R.len Try.underlying40 (hF.ev rfl)) fun a hF => ?_
    refine sv' hF (wn rfl) rfl rfl (R.lss (hF.ev rfl) (hF.ev rfl)) fun a hF => ?_
    refine s0 ?_
    refine then_n (hK7 _ _ ?_)
    refine cD hF rfl (fun c2 => ?_) (fun c2 => ?_)
    ·
      refine wp_skip ?_
      refine then_n (hK6 _ _ ?_)
      refine wp_seq_k fun K8 hK8 => ?_
      refine wp_block ?_
      refine wp_seq_k fun K9 hK9 => ?_
      refine wp_drawS hS [(0, 0), (1, 0), (2, 0), (3, 1), (4, 0), (5, 0), (6, 0), (7, 1), (8, 0)] mix (by kernel_rfl) (hP.then.block.then.then.block.then) fun w hS => ?_
      have hD := hS
      refine dq hF rfl (wn rfl) rfl rfl (fun w => R.move (hF.ev rfl)) fun a hF => ?_
      refine dq hF rfl (wn rfl) rfl rfl (fun w => R.move (hF.ev rfl)) fun a hF => ?_
      refine dq hF rfl (wn rfl) rfl rfl (fun w => R.indexO Try.underlying40 sz72 (hF.ev rfl) (Rd.ne hA (by rw [asks_length]; omega)) (hF.ev rfl) (by omega) (by omega)) fun a hF => ?_
      refine dr hF rfl (wn rfl) rfl rfl hD (fun w hD => R.loadAO (cs := askc (l.getD i ask0)) agg72 (hF.ev rfl) (hA.old hD) sz72 rfl (Nat.succ_pos _) (asks_at (k := i) (by omega) (by omega))) fun a hF => ?_
      refine dq hF rfl (wn rfl) rfl rfl (fun w => R.move (hF.ev rfl)) fun a hF => ?_
      refine dq hF rfl (wn rfl) rfl rfl (fun w => R.move (hF.ev rfl)) fun a hF => ?_
      refine dq hF rfl (wn rfl) rfl rfl (fun w => R.indexO Try.underlying40 sz72 (hF.ev rfl) (Rd.ne hB (by rw [asks_length]; omega)) (hF.ev rfl) (by omega) (by omega)) fun a hF => ?_
      refine dr hF rfl (wn rfl) rfl rfl hD (fun w hD => R.loadAO (cs := askc (l.getD i ask0)) agg72 (hF.ev rfl) (hB.old hD) sz72 rfl (Nat.succ_pos _) (asks_at (k := i) (by omega) (by omega))) fun a hF => ?_
      refine dq hF rfl (wn rfl) rfl rfl (fun w => R.as (u := .bool false) (R.neqAgg (hF.ev rfl) (hF.ev rfl) (ask_eq _) eg72) (rfl)) fun a hF => ?_
      refine d0 ?_
      refine then_n (hK9 _ _ ?_)
      refine cF hF rfl ?_
      refine wp_skip ?_
      refine blk_n ?_
      refine then_n (hK8 _ _ ?_)
      refine wp_region_lit ?_
      refine sv' hF (wn rfl) rfl rfl (R.move (hF.ev rfl)) fun a hF => ?_
      refine sv' hF (wn rfl) rfl rfl (R.addI (hF.ev rfl) (hF.ev rfl) (by omega)) fun a hF => ?_
      refine sv' hF (wn rfl) rfl rfl (R.assign (hF.ev rfl)) fun a hF => ?_
      refine s0 ?_
      refine then_n (hKL1 (l.length - (i + 1)) _ _ ?_ ?_)
      · omega
      · exact ⟨i + 1, rfl, hF.sub ⟨rfl, rfl, (congrArg (fun z => some (Value.int .i64 z)) (by omega)), trivial⟩, hS.sel [] rfl rfl, by omega⟩
    ·
      refine wp_exit (then_x (then_x (blk_hit ?_)))
      refine then_n (hK4 _ _ ?_)
      refine wp_seq_k fun K10 hK10 => ?_
      refine wp_region_lit ?_
      refine sv' hF (wn rfl) rfl rfl (R.assign (hF.ev rfl)) fun a hF => ?_
      refine s0 ?_
      refine then_n (hK10 _ _ ?_)
      refine wp_ret (hR _ _ _ _ _ hF (run_results Try.results16 (.t hF rfl (.nil))) ?_)
      exact ⟨_, [], rfl, ⟨rfl, rfl⟩, hS.none⟩

theorem looks_calls (A : Option Addr) (n c : Nat) (xs : List Nat) (w0 : World) (hA : Rd w0 A (byts xs)) (hn : xs.length = n) (hnc : n ≤ c) (hc : c ≤ 9223372036854775807) (hB : Byt xs) (hb : n ≤ 140737488351232) : Ret Try.prog 17 [.slice A n c] w0 [] (fun v s => v = .bool (looksL (plcs xs 0) xs) ∧ s = []) := by
  refine fn_start Try.func17 rfl Try.ntmps17 rfl [(0, .slice A n c)] ⟨rfl, trivial⟩ ?_
  intro Q a hP hF hR hN
  have hS := St.start w0
  refine wp_seq_k fun K1 hK1 => ?_
  refine wp_region_lit ?_
  refine sv' hF (wn rfl) rfl rfl (R.assign (hF.ev rfl)) fun a hF => ?_
  refine s0 ?_
  refine then_n (hK1 _ _ ?_)
  refine wp_seq_k fun K2 hK2 => ?_
  refine wp_region_lit ?_
  refine sv' hF (wn rfl) rfl rfl (R.assign (hF.ev rfl)) fun a hF => ?_
  refine s0 ?_
  refine then_n (hK2 _ _ ?_)
  refine wp_seq_k fun K3 hK3 => ?_
  refine wp_block ?_
  refine wp_loop_N (fun g a w => ∃ (i : Nat), n - i = g ∧ Fr 24 [(0, .slice A n c), (3, .int .i64 ((i : Nat) : Int))] a ∧ St w0 [] [] w ∧ (i ≤ n) ∧ (looksL (plcs xs i) xs = looksL (plcs xs 0) xs)) (n - 0) ?_ ?_
  · exact ⟨0, rfl, hF.sub ⟨rfl, rfl, trivial⟩, hS.sel [] rfl rfl, by omega, rfl⟩
  · rintro KL1 g a w ⟨i, hg1, hF, hS, hi, hp⟩ hKL1
    refine wp_seq_k fun K4 hK4 => ?_
    refine wp_seq_k fun K5 hK5 => ?_
    refine wp_region_lit ?_
    refine sv' hF (wn rfl) rfl rfl (R.move (hF.ev rfl)) fun a hF => ?_
    refine sv' hF (wn rfl) rfl rfl (R.move (hF.ev rfl)) fun a hF => ?_
    refine sv' hF (wn rfl) rfl rfl (R.len Try.underlying23 (hF.ev rfl)) fun a hF => ?_
    refine sv' hF (wn rfl) rfl rfl (R.lss (hF.ev rfl) (hF.ev rfl)) fun a hF => ?_
    refine s0 ?_
    refine then_n (hK5 _ _ ?_)
    refine cD hF rfl (fun c1 => ?_) (fun c1 => ?_)
    ·
      have hsz := sizeN_le xs i
      refine wp_skip ?_
      refine then_n (hK4 _ _ ?_)
      refine wp_block ?_
      refine wp_seq_k fun K6 hK6 => ?_
      refine wp_region_lit ?_
      refine sv' hF (wn rfl) rfl rfl (R.move (hF.ev rfl)) fun a hF => ?_
      refine sv' hF (wn rfl) rfl rfl (R.move (hF.ev rfl)) fun a hF => ?_
      refine so (wn rfl) (O.call rfl rfl hF ent25 (hF.evs rfl) hS (rsize_calls A n c xs (i) w (hA.old hS) hn hnc hc hB (by omega)) fun v s11 a w hR hF hS => ?_)
      obtain ⟨rfl, rfl⟩ := hR
      refine sv' hF (wn rfl) rfl rfl (R.assign (hF.ev rfl)) fun a hF => ?_
      refine s0 ?_
      refine then_n (hK6 _ _ ?_)
      refine wp_seq_k fun K7 hK7 => ?_
      refine wp_seq_k fun K8 hK8 => ?_
      have hK8' : ∀ a w, (Fr 24 [(0, .slice A n c), (3, .int .i64 ((i : Nat) : Int)), (4, .int .i64 ((sizeN xs i : Nat) : Int)), (20, .bool (decide (sizeN xs i = 0 ∨ cAt xs i = 23)))] a ∧ St w0 [] [] w) → K8 a w := by
        rintro a w ⟨hF, hS⟩
        refine hK8 _ _ ?_
        refine cD hF rfl (fun c2 => ?_) (fun c2 => ?_)
        ·
          refine wp_seq_k fun K9 hK9 => ?_
          refine wp_region_lit ?_
          refine sv' hF (wn rfl) rfl rfl (R.assign (hF.ev rfl)) fun a hF => ?_
          refine s0 ?_
          refine then_n (hK9 _ _ ?_)
          refine wp_ret (then_r (blk_r (then_r (blk_r (then_r (hR _ _ _ _ _ hF (run_results Try.results17 (.t hF rfl (.nil))) ?_))))))
          exact ⟨_, [], rfl, ⟨congrArg Value.bool ((show true = _ from by rw [← hp]; rcases c2 with h | h; exact (looks_bad (by omega) h).symm; exact (looks_hit (by omega) h).symm)), rfl⟩, hS.none⟩
        ·
          refine wp_skip ?_
          refine then_n (hK7 _ _ ?_)
          refine wp_region_lit ?_
          refine sv' hF (wn rfl) rfl rfl (R.move (hF.ev rfl)) fun a hF => ?_
          refine sv' hF (wn rfl) rfl rfl (R.move (hF.ev rfl)) fun a hF => ?_
          refine sv' hF (wn rfl) rfl rfl (R.addI (hF.ev rfl) (hF.ev rfl) (by omega)) fun a hF => ?_
          refine sv' hF (wn rfl) rfl rfl (R.assign (hF.ev rfl)) fun a hF => ?_
          refine s0 ?_
          refine blk_n ?_
          refine then_n (hKL1 (n - (i + sizeN xs i)) _ _ ?_ ?_)
          · omega
          · exact ⟨i + sizeN xs i, rfl, hF.sub ⟨rfl, (congrArg (fun z => some (Value.int .i64 z)) (by omega)), trivial⟩, hS.sel [] rfl rfl, by have := (sizeN_le xs i).resolve_left (by omega); omega, (looks_next (by omega) (by omega) (by omega)).trans hp⟩
      refine wp_region_lit ?_
      refine sv' hF (wn rfl) rfl rfl (R.move (hF.ev rfl)) fun a hF => ?_
      refine sv' hF (wn rfl) rfl rfl (R.eql (hF.ev rfl) (hF.ev rfl)) fun a hF => ?_
      refine sv' hF (wn rfl) rfl rfl (R.move (hF.ev rfl)) fun a hF => ?_
      refine hF.splitD (t := 14) rfl (fun h14 hF => ?_) (fun h14 hF => ?_)
      ·
        refine sk hF (ws hF rfl rfl rfl rfl) rfl rfl fun a hF => ?_
        refine sk hF (ws hF rfl rfl rfl rfl) rfl rfl fun a hF => ?_
        refine sk hF (ws hF rfl rfl rfl rfl) rfl rfl fun a hF => ?_
        refine sk hF (ws hF rfl rfl rfl rfl) rfl rfl fun a hF => ?_
        refine sk hF (ws hF rfl rfl rfl rfl) rfl rfl fun a hF => ?_
        refine sv' hF (wn rfl) rfl rfl (R.pickT (hF.ev rfl) (hF.ev rfl)) fun a hF => ?_
        refine s0 ?_
        exact then_n (hK8' _ _ ⟨hF.sub ⟨rfl, rfl, rfl, (congrArg (fun z => some (Value.bool z)) (by first | exact (decide_eq_true (by omega)).symm | exact (decide_eq_false (by omega)).symm | exact decide_eq_decide.2 (by omega))), trivial⟩, hS.sel [] rfl rfl⟩)
      ·
        refine sv' hF (wy hF rfl rfl rfl) rfl rfl (R.move (hF.ev rfl)) fun a hF => ?_
        refine sv' hF (wy hF rfl rfl rfl) rfl rfl (R.move (hF.ev rfl)) fun a hF => ?_
        refine sv' hF (wy hF rfl rfl rfl) rfl rfl (R.indexO Try.underlying23 sz5 (hF.ev rfl) (Rd.ne hA (by rw [length_byts]; omega)) (hF.ev rfl) (by omega) (by omega)) fun a hF => ?_
        refine sv' hF (wy hF rfl rfl rfl) rfl rfl (R.loadO one5 (hF.ev rfl) (hA.old hS) (cb_at (i := i) (by omega) (by omega))) fun a hF => ?_
        refine sv' hF (wy hF rfl rfl rfl) rfl rfl (R.eql (hF.ev rfl) (hF.ev rfl)) fun a hF => ?_
        refine sv' hF (wn rfl) rfl rfl (R.pickF (hF.ev rfl) (hF.ev rfl)) fun a hF => ?_
        refine s0 ?_
        exact then_n (hK8' _ _ ⟨hF.sub ⟨rfl, rfl, rfl, (congrArg (fun z => some (Value.bool z)) (by first | exact (decide_eq_true (by omega)).symm | exact (decide_eq_false (by omega)).symm | exact decide_eq_decide.2 (by omega))), trivial⟩, hS.sel [] rfl rfl⟩)
    ·
      refine wp_exit (then_x (then_x (blk_hit ?_)))
      refine then_n (hK3 _ _ ?_)
      refine wp_seq_k fun K10 hK10 => ?_
      refine wp_region_lit ?_
      refine sv' hF (wn rfl) rfl rfl (R.assign (hF.ev rfl)) fun a hF => ?_
      refine s0 ?_
      refine then_n (hK10 _ _ ?_)
      refine wp_ret (hR _ _ _ _ _ hF (run_results Try.results17 (.t hF rfl (.nil))) ?_)
      exact ⟨_, [], rfl, ⟨congrArg Value.bool ((show false = _ from by rw [← hp]; exact (looks_end (by omega)).symm)), rfl⟩, hS.none⟩

end Go.Proofs.Ytlapmbkfmbkdoaa
