/- The calls of WideBack. -/
import Derived.Test.YthgecfjpacebeaaCg
import Derived.Test.YthgecfjpacebeaaWB
import Derived.Test.YthgecfjpacebeaaWC
namespace Go.Proofs.Ythgecfjpacebeaa
open Go Go.Fw Go.RowKit
attribute [local irreducible] Go.Oper.wp Go.Code.wp Go.wpList Go.Fw.WL Go.Calls
theorem byt_txt (n : Nat) : Byt (txt n) := by
  intro b hb
  simp only [txt, List.mem_map, List.mem_reverse] at hb
  obtain ⟨d, hd, rfl⟩ := hb
  have := dig_dec n d hd
  omega

theorem div_if {x y : Nat} (h : x < 115792089237316195423570985008687907853269984665640564039457584007913129639936) : (if y = 0 then 0 else x / y) < 115792089237316195423570985008687907853269984665640564039457584007913129639936 := by
  by_cases e : y = 0
  · rw [if_pos e]; decide
  · rw [if_neg e]; exact Nat.lt_of_le_of_lt (Nat.div_le_self _ _) h
theorem mod_if {x y : Nat} (h : x < 115792089237316195423570985008687907853269984665640564039457584007913129639936) : (if y = 0 then 0 else x % y) < 115792089237316195423570985008687907853269984665640564039457584007913129639936 := by
  by_cases e : y = 0
  · rw [if_pos e]; decide
  · rw [if_neg e]; exact Nat.lt_of_le_of_lt (Nat.mod_le _ _) h
theorem muldiv_if {z y : Nat} : (if y = 0 then 0 else if z < 115792089237316195423570985008687907853269984665640564039457584007913129639936 then z else 0) < 115792089237316195423570985008687907853269984665640564039457584007913129639936 := by
  by_cases e : y = 0
  · rw [if_pos e]; decide
  · rw [if_neg e]; exact fit_lt fun h => h

theorem bytesAlike_calls (A B : Option Addr) (c d n : Nat) (xs : List Nat) (w0 : World) (hA : Rd w0 A (byts xs)) (hB : Rd w0 B (byts xs)) (hn : xs.length = n) : Ret Try.prog 67 [.slice A n c, .slice B n d] w0 [] (fun v s => v = .bool true ∧ s = []) := by
  refine fn_start Try.func67 rfl Try.ntmps67 rfl [(0, .slice A n c), (1, .slice B n d)] ⟨rfl, rfl, trivial⟩ ?_
  intro Q a hP hF hR hN
  have hS := St.start w0
  refine wp_seq_k fun K1 hK1 => ?_
  refine wp_region_lit ?_
  refine sv' hF (wn rfl) rfl rfl (R.assign (hF.ev rfl)) fun a hF => ?_
  refine s0 ?_
  refine then_n (hK1 _ _ ?_)
  refine wp_seq_k fun K2 hK2 => ?_
  refine wp_region_lit ?_
  refine sv' hF (wn rfl) rfl rfl (R.move (hF.ev rfl)) fun a hF => ?_
  refine sv' hF (wn rfl) rfl rfl (R.convStr (xs := xs) Try.underlying82 Try.underlying5 Try.underlying9 (hF.ev rfl) hA hn) fun a hF => ?_
  refine sv' hF (wn rfl) rfl rfl (R.move (hF.ev rfl)) fun a hF => ?_
  refine sv' hF (wn rfl) rfl rfl (R.convStr (xs := xs) Try.underlying82 Try.underlying5 Try.underlying9 (hF.ev rfl) hB hn) fun a hF => ?_
  refine sv' hF (wn rfl) rfl rfl (R.as (u := .bool true) (R.eqlStr (hF.ev rfl) (hF.ev rfl)) (congrArg Value.bool (decide_eq_true (rfl)))) fun a hF => ?_
  refine sv' hF (wn rfl) rfl rfl (R.assign (hF.ev rfl)) fun a hF => ?_
  refine s0 ?_
  refine then_n (hK2 _ _ ?_)
  refine wp_ret (hR _ _ _ _ _ hF (run_results Try.results67 (.t hF rfl (.nil))) ?_)
  exact ⟨_, [], rfl, ⟨rfl, rfl⟩, hS.none⟩
theorem read_bytes {m : Nat} (A : Option Addr) (c : Nat) (w : World) (hA : Rd w A (byts (wb m 32))) (hm : m < 115792089237316195423570985008687907853269984665640564039457584007913129639936) : Ret Try.prog 70 [.slice A (wb m 32).length c] w [] (fun v s => v = .tuple #[wv m, .int .i64 0] ∧ s = []) := by
  have h := read_calls A _ c (wb m 32) w hA rfl (byt_wb m 32)
  rw [readW, readN, if_pos (length_wb m 32), if_pos (length_wb m 32), be_back hm] at h
  exact h
theorem parse_txt {m : Nat} (w : World) (hm : m < 115792089237316195423570985008687907853269984665640564039457584007913129639936) : Ret Try.prog 47 [.string (bstr (txt m))] w [] (fun v q => v = .tuple #[wv m, .int .i64 0] ∧ q = []) := by
  have h := parse_calls (bstr (txt m)) w
  rw [prsW, bys_bstr (byt_txt m), prs_txt hm] at h
  exact h

theorem bytesAlike_back (A B : Option Addr) (c d n : Nat) (xs : List Nat) (w : World) (hA : Rd w A (byts (wb (readN xs) 32))) (hB : Rd w B (byts xs)) (hn : xs.length = n) (h32 : xs.length = 32) (hx : Byt xs) :
    Ret Try.prog 67 [.slice A (wb (readN xs) 32).length c, .slice B n d] w [] (fun v s => v = .bool true ∧ s = []) := by
  have e : wb (readN xs) 32 = xs := by rw [readN, if_pos h32]; exact wb_back h32 hx
  rw [e] at hA ⊢
  rw [hn]
  exact bytesAlike_calls A B c d n xs w hA hB hn
theorem str_back {s : ByteArray} (h : (prs (bys s)).isSome = true) : bstr (txt ((prs (bys s)).getD 0)) = s := by
  obtain ⟨n, hn⟩ := Option.isSome_iff_exists.1 h
  rw [hn, Option.getD_some, txt_prs hn, bstr_bys]

theorem wideBack_calls (m n q : Nat) (A : Option Addr) (k c : Nat) (xs : List Nat) (s : ByteArray) (w0 : World) (hm : m < 115792089237316195423570985008687907853269984665640564039457584007913129639936) (hn : n < 115792089237316195423570985008687907853269984665640564039457584007913129639936) (hq : q < 115792089237316195423570985008687907853269984665640564039457584007913129639936) (hA : Rd w0 A (byts xs)) (hk : xs.length = k) (hB : Byt xs) : Ret Try.prog 17 [.agg (wc m ++ wc n ++ wc q ++ [.slice A k c, .string s] : List Value).toArray] w0 [] (fun v z => v = .bool true ∧ z = []) := by
  refine fn_start Try.func17 rfl Try.ntmps17 rfl [(0, .agg (wc m ++ wc n ++ wc q ++ [.slice A k c, .string s] : List Value).toArray)] ⟨rfl, trivial⟩ ?_
  intro Q a hP hF hR hN
  have hS := St.start w0
  refine wp_seq_k fun K1 hK1 => ?_
  refine wp_region_lit ?_
  refine so (wn rfl) (O.box rfl rfl hF (hF.ev rfl) rfl hS fun b1 a w hF hS => ?_)
  refine sv' hF (wn rfl) rfl rfl (R.assign (hF.ev rfl)) fun a hF => ?_
  refine s0 ?_
  refine then_n (hK1 _ _ ?_)
  refine wp_seq_k fun K2 hK2 => ?_
  refine wp_region_lit ?_
  refine so (wn rfl) (O.call rfl rfl hF ent40 (hF.evs rfl) hS (known_calls _) fun v s31 a w hR hF hS => ?_)
  obtain ⟨rfl, rfl⟩ := hR
  refine sv' hF (wn rfl) rfl rfl (R.assign (hF.ev rfl)) fun a hF => ?_
  refine s0 ?_
  refine then_n (hK2 _ _ ?_)
  refine wp_seq_k fun K3 hK3 => ?_
  refine wp_region_lit ?_
  refine sv' hF (wn rfl) rfl rfl (R.fieldAddr (k := 0) Try.underlying91 rfl nz29 (hF.ev rfl) rfl) fun a hF => ?_
  refine sv' hF (wn rfl) rfl rfl (R.loadA (cs := wc m) agg29 (hF.ev rfl) hS (.t .h) sz29 rfl (getAt rfl)) fun a hF => ?_
  refine so (wn rfl) (O.alloc rfl rfl hF ze29 rfl hS fun b4 a w hF hS => ?_)
  refine so (wn rfl) (O.storeW sz29 (hF.ev rfl) (hF.ev rfl) (rfl) rfl (by simp [Value.oneCell']) hS .h (rfl) fun w hS => ?_)
  refine s0 ?_
  refine then_n (hK3 _ _ ?_)
  refine wp_seq_k fun K4 hK4 => ?_
  refine wp_region_lit ?_
  refine sv' hF (wn rfl) rfl rfl (R.fieldAddr (k := 4) Try.underlying91 rfl nz29 (hF.ev rfl) rfl) fun a hF => ?_
  refine sv' hF (wn rfl) rfl rfl (R.loadA (cs := wc n) agg29 (hF.ev rfl) hS (.t (.t .h)) sz29 rfl (getAt rfl)) fun a hF => ?_
  refine so (wn rfl) (O.alloc rfl rfl hF ze29 rfl hS fun b5 a w hF hS => ?_)
  refine so (wn rfl) (O.storeW sz29 (hF.ev rfl) (hF.ev rfl) (rfl) rfl (by simp [Value.oneCell']) hS .h (rfl) fun w hS => ?_)
  refine s0 ?_
  refine then_n (hK4 _ _ ?_)
  refine wp_seq_k fun K5 hK5 => ?_
  refine wp_region_lit ?_
  refine sv' hF (wn rfl) rfl rfl (R.fieldAddr (k := 8) Try.underlying91 rfl nz29 (hF.ev rfl) rfl) fun a hF => ?_
  refine sv' hF (wn rfl) rfl rfl (R.loadA (cs := wc q) agg29 (hF.ev rfl) hS (.t (.t (.t .h))) sz29 rfl (getAt rfl)) fun a hF => ?_
  refine so (wn rfl) (O.alloc rfl rfl hF ze29 rfl hS fun b6 a w hF hS => ?_)
  refine so (wn rfl) (O.storeW sz29 (hF.ev rfl) (hF.ev rfl) (rfl) rfl (by simp [Value.oneCell']) hS .h (rfl) fun w hS => ?_)
  refine s0 ?_
  refine then_n (hK5 _ _ ?_)
  refine wp_seq_k fun K6 hK6 => ?_
  refine wp_region_lit ?_
  refine sv' hF (wn rfl) rfl rfl (R.fieldAddr (k := 12) Try.underlying91 rfl nz82 (hF.ev rfl) rfl) fun a hF => ?_
  refine sv' hF (wn rfl) rfl rfl (R.load one82 (hF.ev rfl) hS (.t (.t (.t (.t .h)))) (rfl)) fun a hF => ?_
  refine sv' hF (wn rfl) rfl rfl (R.assign (hF.ev rfl)) fun a hF => ?_
  refine s0 ?_
  refine then_n (hK6 _ _ ?_)
  refine wp_seq_k fun K7 hK7 => ?_
  refine wp_region_lit ?_
  refine sv' hF (wn rfl) rfl rfl (R.fieldAddr (k := 13) Try.underlying91 rfl nz9 (hF.ev rfl) rfl) fun a hF => ?_
  refine sv' hF (wn rfl) rfl rfl (R.load one9 (hF.ev rfl) hS (.t (.t (.t (.t .h)))) (rfl)) fun a hF => ?_
  refine sv' hF (wn rfl) rfl rfl (R.assign (hF.ev rfl)) fun a hF => ?_
  refine s0 ?_
  refine then_n (hK7 _ _ ?_)
  refine wp_seq_k fun K8 hK8 => ?_
  refine wp_region_lit ?_
  refine sv' hF (wn rfl) rfl rfl (R.loadW agg29 (hF.ev rfl) hS (.t (.t .h)) sz29 (rfl)) fun a hF => ?_
  refine sv' hF (wn rfl) rfl rfl (R.loadW agg29 (hF.ev rfl) hS (.t .h) sz29 (rfl)) fun a hF => ?_
  refine so (wn rfl) (O.call rfl rfl hF ent41 (hF.evs rfl) hS (add_calls m n _ hm hn) fun v s45 a w hR hF hS => ?_)
  obtain ⟨rfl, rfl⟩ := hR
  refine sv' hF (wn rfl) rfl rfl (R.move (hF.ev rfl)) fun a hF => ?_
  refine sv' hF (wn rfl) rfl rfl (R.extract (hF.ev rfl) rfl) fun a hF => ?_
  refine sv' hF (wn rfl) rfl rfl (R.extract (hF.ev rfl) rfl) fun a hF => ?_
  refine so (wn rfl) (O.alloc rfl rfl hF ze29 rfl hS fun b9 a w hF hS => ?_)
  refine so (wn rfl) (O.storeW sz29 (hF.ev rfl) (hF.ev rfl) (rfl) rfl (by simp [Value.oneCell']) hS .h (rfl) fun w hS => ?_)
  refine sv' hF (wn rfl) rfl rfl (R.assign (hF.ev rfl)) fun a hF => ?_
  refine s0 ?_
  refine then_n (hK8 _ _ ?_)
  refine wp_seq_k fun K9 hK9 => ?_
  refine wp_region_lit ?_
  refine sv' hF (wn rfl) rfl rfl (R.loadW agg29 (hF.ev rfl) hS .h sz29 (rfl)) fun a hF => ?_
  refine sv' hF (wn rfl) rfl rfl (R.loadW agg29 (hF.ev rfl) hS (.t (.t (.t .h))) sz29 (rfl)) fun a hF => ?_
  refine so (wn rfl) (O.call rfl rfl hF ent42 (hF.evs rfl) hS (sub_calls (if m + n < 115792089237316195423570985008687907853269984665640564039457584007913129639936 then m + n else 0) n _ (fit_lt fun h => h) hn) fun v s51 a w hR hF hS => ?_)
  obtain ⟨rfl, rfl⟩ := hR
  refine sv' hF (wn rfl) rfl rfl (R.move (hF.ev rfl)) fun a hF => ?_
  refine sv' hF (wn rfl) rfl rfl (R.extract (hF.ev rfl) rfl) fun a hF => ?_
  refine sv' hF (wn rfl) rfl rfl (R.extract (hF.ev rfl) rfl) fun a hF => ?_
  refine so (wn rfl) (O.alloc rfl rfl hF ze29 rfl hS fun b11 a w hF hS => ?_)
  refine so (wn rfl) (O.storeW sz29 (hF.ev rfl) (hF.ev rfl) (rfl) rfl (by simp [Value.oneCell']) hS .h (rfl) fun w hS => ?_)
  refine sv' hF (wn rfl) rfl rfl (R.assign (hF.ev rfl)) fun a hF => ?_
  refine s0 ?_
  refine then_n (hK9 _ _ ?_)
  refine wp_seq_k fun K10 hK10 => ?_
  have hK10' : ∀ a w, (Fr 187 [(3, .bool true), (4, .pointer (some ⟨b4, 0, none⟩)), (5, .pointer (some ⟨b5, 0, none⟩)), (6, .pointer (some ⟨b6, 0, none⟩)), (7, .slice A k c), (8, .string s)] a ∧ St w0 [] [[(b4, Cel (wc m) 29)], [(b5, Cel (wc n) 29)], [(b6, Cel (wc q) 29)]] w) → K10 a w := by
    rintro a w ⟨hF, hS⟩
    refine hK10 _ _ ?_
    refine wp_seq_k fun K11 hK11 => ?_
    refine wp_region_lit ?_
    refine sv' hF (wn rfl) rfl rfl (R.loadW agg29 (hF.ev rfl) hS .h sz29 (rfl)) fun a hF => ?_
    refine sv' hF (wn rfl) rfl rfl (R.loadW agg29 (hF.ev rfl) hS (.t .h) sz29 (rfl)) fun a hF => ?_
    refine so (wn rfl) (O.call rfl rfl hF ent43 (hF.evs rfl) hS (mul_calls m n _ hm hn) fun v s68 a w hR hF hS => ?_)
    obtain ⟨rfl, rfl⟩ := hR
    refine sv' hF (wn rfl) rfl rfl (R.move (hF.ev rfl)) fun a hF => ?_
    refine sv' hF (wn rfl) rfl rfl (R.extract (hF.ev rfl) rfl) fun a hF => ?_
    refine sv' hF (wn rfl) rfl rfl (R.extract (hF.ev rfl) rfl) fun a hF => ?_
    refine so (wn rfl) (O.alloc rfl rfl hF ze29 rfl hS fun b13 a w hF hS => ?_)
    refine so (wn rfl) (O.storeW sz29 (hF.ev rfl) (hF.ev rfl) (rfl) rfl (by simp [Value.oneCell']) hS .h (rfl) fun w hS => ?_)
    refine sv' hF (wn rfl) rfl rfl (R.assign (hF.ev rfl)) fun a hF => ?_
    refine s0 ?_
    refine then_n (hK11 _ _ ?_)
    refine wp_seq_k fun K12 hK12 => ?_
    refine wp_region_lit ?_
    refine sv' hF (wn rfl) rfl rfl (R.loadW agg29 (hF.ev rfl) hS .h sz29 (rfl)) fun a hF => ?_
    refine sv' hF (wn rfl) rfl rfl (R.loadW agg29 (hF.ev rfl) hS (.t (.t (.t .h))) sz29 (rfl)) fun a hF => ?_
    refine so (wn rfl) (O.call rfl rfl hF ent50 (hF.evs rfl) hS (div_calls (if m * n < 115792089237316195423570985008687907853269984665640564039457584007913129639936 then m * n else 0) n _ (fit_lt fun h => h) hn) fun v s74 a w hR hF hS => ?_)
    obtain ⟨rfl, rfl⟩ := hR
    refine sv' hF (wn rfl) rfl rfl (R.move (hF.ev rfl)) fun a hF => ?_
    refine sv' hF (wn rfl) rfl rfl (R.extract (hF.ev rfl) rfl) fun a hF => ?_
    refine sv' hF (wn rfl) rfl rfl (R.extract (hF.ev rfl) rfl) fun a hF => ?_
    refine sv' hF (wn rfl) rfl rfl (R.extract (hF.ev rfl) rfl) fun a hF => ?_
    refine so (wn rfl) (O.alloc rfl rfl hF ze29 rfl hS fun b14 a w hF hS => ?_)
    refine so (wn rfl) (O.alloc rfl rfl hF ze29 rfl hS fun b15 a w hF hS => ?_)
    refine so (wn rfl) (O.storeW sz29 (hF.ev rfl) (hF.ev rfl) (rfl) rfl (by simp [Value.oneCell']) hS (.t .h) (rfl) fun w hS => ?_)
    refine so (wn rfl) (O.storeW sz29 (hF.ev rfl) (hF.ev rfl) (rfl) rfl (by simp [Value.oneCell']) hS .h (rfl) fun w hS => ?_)
    refine sv' hF (wn rfl) rfl rfl (R.assign (hF.ev rfl)) fun a hF => ?_
    refine s0 ?_
    refine then_n (hK12 _ _ ?_)
    refine wp_seq_k fun K13 hK13 => ?_
    refine wp_region_lit ?_
    refine sv' hF (wn rfl) rfl rfl (R.loadW agg29 (hF.ev rfl) hS (.t (.t (.t (.t (.t .h))))) sz29 (rfl)) fun a hF => ?_
    refine sv' hF (wn rfl) rfl rfl (R.loadW agg29 (hF.ev rfl) hS (.t (.t (.t (.t (.t (.t .h)))))) sz29 (rfl)) fun a hF => ?_
    refine sv' hF (wn rfl) rfl rfl (R.loadW agg29 (hF.ev rfl) hS (.t (.t (.t (.t (.t (.t (.t .h))))))) sz29 (rfl)) fun a hF => ?_
    refine so (wn rfl) (O.call rfl rfl hF ent52 (hF.evs rfl) hS (mulDiv_calls m n q _ hm hn hq) fun v s82 a w hR hF hS => ?_)
    obtain ⟨rfl, rfl⟩ := hR
    refine sv' hF (wn rfl) rfl rfl (R.move (hF.ev rfl)) fun a hF => ?_
    refine sv' hF (wn rfl) rfl rfl (R.extract (hF.ev rfl) rfl) fun a hF => ?_
    refine sv' hF (wn rfl) rfl rfl (R.extract (hF.ev rfl) rfl) fun a hF => ?_
    refine so (wn rfl) (O.alloc rfl rfl hF ze29 rfl hS fun b16 a w hF hS => ?_)
    refine so (wn rfl) (O.storeW sz29 (hF.ev rfl) (hF.ev rfl) (rfl) rfl (by simp [Value.oneCell']) hS .h (rfl) fun w hS => ?_)
    refine sv' hF (wn rfl) rfl rfl (R.assign (hF.ev rfl)) fun a hF => ?_
    refine s0 ?_
    refine then_n (hK13 _ _ ?_)
    refine wp_seq_k fun K14 hK14 => ?_
    refine wp_region_lit ?_
    refine sv' hF (wn rfl) rfl rfl (R.loadW agg29 (hF.ev rfl) hS (.t (.t (.t (.t (.t .h))))) sz29 (rfl)) fun a hF => ?_
    refine sv' hF (wn rfl) rfl rfl (R.loadW agg29 (hF.ev rfl) hS (.t (.t (.t (.t (.t (.t (.t (.t (.t .h))))))))) sz29 (rfl)) fun a hF => ?_
    refine so (wn rfl) (O.call rfl rfl hF ent50 (hF.evs rfl) hS (div_calls (if m * n < 115792089237316195423570985008687907853269984665640564039457584007913129639936 then m * n else 0) q _ (fit_lt fun h => h) hq) fun v s88 a w hR hF hS => ?_)
    obtain ⟨rfl, rfl⟩ := hR
    refine sv' hF (wn rfl) rfl rfl (R.move (hF.ev rfl)) fun a hF => ?_
    refine sv' hF (wn rfl) rfl rfl (R.extract (hF.ev rfl) rfl) fun a hF => ?_
    refine sv' hF (wn rfl) rfl rfl (R.extract (hF.ev rfl) rfl) fun a hF => ?_
    refine sv' hF (wn rfl) rfl rfl (R.extract (hF.ev rfl) rfl) fun a hF => ?_
    refine so (wn rfl) (O.alloc rfl rfl hF ze29 rfl hS fun b18 a w hF hS => ?_)
    refine so (wn rfl) (O.alloc rfl rfl hF ze29 rfl hS fun b19 a w hF hS => ?_)
    refine so (wn rfl) (O.storeW sz29 (hF.ev rfl) (hF.ev rfl) (rfl) rfl (by simp [Value.oneCell']) hS (.t .h) (rfl) fun w hS => ?_)
    refine so (wn rfl) (O.storeW sz29 (hF.ev rfl) (hF.ev rfl) (rfl) rfl (by simp [Value.oneCell']) hS .h (rfl) fun w hS => ?_)
    refine sv' hF (wn rfl) rfl rfl (R.assign (hF.ev rfl)) fun a hF => ?_
    refine s0 ?_
    refine then_n (hK14 _ _ ?_)
    refine wp_seq_k fun K15 hK15 => ?_
    have hK15' : ∀ a w, (∃ (b16 : Nat) (b18 : Nat), Fr 187 [(3, .bool true), (4, .pointer (some ⟨b4, 0, none⟩)), (5, .pointer (some ⟨b5, 0, none⟩)), (6, .pointer (some ⟨b6, 0, none⟩)), (7, .slice A k c), (8, .string s), (10, .int .i64 (if m * n < 115792089237316195423570985008687907853269984665640564039457584007913129639936 then 0 else 22)), (16, .pointer (some ⟨b16, 0, none⟩)), (17, .int .i64 (if q = 0 then 24 else if m * n / q < 115792089237316195423570985008687907853269984665640564039457584007913129639936 then 0 else 22)), (18, .pointer (some ⟨b18, 0, none⟩)), (20, .int .i64 (if q = 0 then 24 else 0))] a ∧ St w0 [] [[(b4, Cel (wc m) 29)], [(b5, Cel (wc n) 29)], [(b6, Cel (wc q) 29)], [(b16, Cel (wc (if q = 0 then 0 else if m * n / q < 115792089237316195423570985008687907853269984665640564039457584007913129639936 then m * n / q else 0)) 29)], [(b18, Cel (wc (if q = 0 then 0 else (if m * n < 115792089237316195423570985008687907853269984665640564039457584007913129639936 then m * n else 0) / q)) 29)]] w) → K15 a w := by
      rintro a w ⟨b16, b18, hF, hS⟩
      refine hK15 _ _ ?_
      refine wp_seq_k fun K16 hK16 => ?_
      have hK16' : ∀ a w, (Fr 187 [(3, .bool true), (4, .pointer (some ⟨b4, 0, none⟩)), (5, .pointer (some ⟨b5, 0, none⟩)), (6, .pointer (some ⟨b6, 0, none⟩)), (7, .slice A k c), (8, .string s)] a ∧ St w0 [] [[(b4, Cel (wc m) 29)], [(b5, Cel (wc n) 29)], [(b6, Cel (wc q) 29)]] w) → K16 a w := by
        rintro a w ⟨hF, hS⟩
        refine hK16 _ _ ?_
        refine wp_seq_k fun K17 hK17 => ?_
        refine wp_region_lit ?_
        refine sv' hF (wn rfl) rfl rfl (R.loadW agg29 (hF.ev rfl) hS .h sz29 (rfl)) fun a hF => ?_
        refine so (wn rfl) (O.call rfl rfl hF ent65 (hF.evs rfl) hS (bytes_calls m _) fun v s127 a w hR hF hS => ?_)
        obtain ⟨A1, c1, rfl, hO1⟩ := hR
        refine so (wn rfl) (O.call rfl rfl hF ent70 (hF.evs rfl) hS (read_bytes A1 c1 w (hO1.rd hS .h) hm) fun v s128 a w hR hF hS => ?_)
        obtain ⟨rfl, rfl⟩ := hR
        refine sv' hF (wn rfl) rfl rfl (R.move (hF.ev rfl)) fun a hF => ?_
        refine sv' hF (wn rfl) rfl rfl (R.extract (hF.ev rfl) rfl) fun a hF => ?_
        refine sv' hF (wn rfl) rfl rfl (R.extract (hF.ev rfl) rfl) fun a hF => ?_
        refine so (wn rfl) (O.alloc rfl rfl hF ze29 rfl hS fun b21 a w hF hS => ?_)
        refine so (wn rfl) (O.storeW sz29 (hF.ev rfl) (hF.ev rfl) (rfl) rfl (by simp [Value.oneCell']) hS .h (rfl) fun w hS => ?_)
        refine sv' hF (wn rfl) rfl rfl (R.assign (hF.ev rfl)) fun a hF => ?_
        refine s0 ?_
        refine then_n (hK17 _ _ ?_)
        refine wp_seq_k fun K18 hK18 => ?_
        refine wp_region_lit ?_
        refine sv' hF (wn rfl) rfl rfl (R.loadW agg29 (hF.ev rfl) hS (.t (.t (.t .h))) sz29 (rfl)) fun a hF => ?_
        refine so (wn rfl) (O.call rfl rfl hF ent45 (hF.evs rfl) hS (text_calls m _ hm) fun v s133 a w hR hF hS => ?_)
        obtain ⟨rfl, rfl⟩ := hR
        refine so (wn rfl) (O.call rfl rfl hF ent47 (hF.evs rfl) hS (parse_txt _ hm) fun v s134 a w hR hF hS => ?_)
        obtain ⟨rfl, rfl⟩ := hR
        refine sv' hF (wn rfl) rfl rfl (R.move (hF.ev rfl)) fun a hF => ?_
        refine sv' hF (wn rfl) rfl rfl (R.extract (hF.ev rfl) rfl) fun a hF => ?_
        refine sv' hF (wn rfl) rfl rfl (R.extract (hF.ev rfl) rfl) fun a hF => ?_
        refine so (wn rfl) (O.alloc rfl rfl hF ze29 rfl hS fun b23 a w hF hS => ?_)
        refine so (wn rfl) (O.storeW sz29 (hF.ev rfl) (hF.ev rfl) (rfl) rfl (by simp [Value.oneCell']) hS .h (rfl) fun w hS => ?_)
        refine sv' hF (wn rfl) rfl rfl (R.assign (hF.ev rfl)) fun a hF => ?_
        refine s0 ?_
        refine then_n (hK18 _ _ ?_)
        refine wp_seq_k fun K19 hK19 => ?_
        refine wp_region_lit ?_
        refine sv' hF (wn rfl) rfl rfl (R.move (hF.ev rfl)) fun a hF => ?_
        refine so (wn rfl) (O.call rfl rfl hF ent70 (hF.evs rfl) hS (read_calls A k c xs w (hA.old hS) hk hB) fun v s139 a w hR hF hS => ?_)
        obtain ⟨rfl, rfl⟩ := hR
        refine sv' hF (wn rfl) rfl rfl (R.move (hF.ev rfl)) fun a hF => ?_
        refine sv' hF (wn rfl) rfl rfl (R.extract (hF.ev rfl) rfl) fun a hF => ?_
        refine sv' hF (wn rfl) rfl rfl (R.extract (hF.ev rfl) rfl) fun a hF => ?_
        refine so (wn rfl) (O.alloc rfl rfl hF ze29 rfl hS fun b25 a w hF hS => ?_)
        refine so (wn rfl) (O.storeW sz29 (hF.ev rfl) (hF.ev rfl) (rfl) rfl (by simp [Value.oneCell']) hS .h (rfl) fun w hS => ?_)
        refine sv' hF (wn rfl) rfl rfl (R.assign (hF.ev rfl)) fun a hF => ?_
        refine s0 ?_
        refine then_n (hK19 _ _ ?_)
        refine wp_seq_k fun K20 hK20 => ?_
        refine wp_region_lit ?_
        refine sv' hF (wn rfl) rfl rfl (R.move (hF.ev rfl)) fun a hF => ?_
        refine so (wn rfl) (O.call rfl rfl hF ent47 (hF.evs rfl) hS (parse_calls s _) fun v s144 a w hR hF hS => ?_)
        obtain ⟨rfl, rfl⟩ := hR
        refine sv' hF (wn rfl) rfl rfl (R.move (hF.ev rfl)) fun a hF => ?_
        refine sv' hF (wn rfl) rfl rfl (R.extract (hF.ev rfl) rfl) fun a hF => ?_
        refine sv' hF (wn rfl) rfl rfl (R.extract (hF.ev rfl) rfl) fun a hF => ?_
        refine so (wn rfl) (O.alloc rfl rfl hF ze29 rfl hS fun b27 a w hF hS => ?_)
        refine so (wn rfl) (O.storeW sz29 (hF.ev rfl) (hF.ev rfl) (rfl) rfl (by simp [Value.oneCell']) hS .h (rfl) fun w hS => ?_)
        refine sv' hF (wn rfl) rfl rfl (R.assign (hF.ev rfl)) fun a hF => ?_
        refine s0 ?_
        refine then_n (hK20 _ _ ?_)
        refine wp_seq_k fun K21 hK21 => ?_
        refine wp_region_lit ?_
        refine sv' hF (wn rfl) rfl rfl (R.loadW agg29 (hF.ev rfl) hS (.t (.t .h)) sz29 (rfl)) fun a hF => ?_
        refine so (wn rfl) (O.call rfl rfl hF ent65 (hF.evs rfl) hS (bytes_calls (readN xs) _) fun v s148 a w hR hF hS => ?_)
        obtain ⟨A2, c2, rfl, hO2⟩ := hR
        refine sv' hF (wn rfl) rfl rfl (R.assign (hF.ev rfl)) fun a hF => ?_
        refine s0 ?_
        refine then_n (hK21 _ _ ?_)
        refine wp_seq_k fun K22 hK22 => ?_
        refine wp_region_lit ?_
        refine sv' hF (wn rfl) rfl rfl (R.loadW agg29 (hF.ev rfl) hS (.t .h) sz29 (rfl)) fun a hF => ?_
        refine so (wn rfl) (O.call rfl rfl hF ent45 (hF.evs rfl) hS (text_calls ((prs (bys s)).getD 0) _ (prs_getD_lt _)) fun v s150 a w hR hF hS => ?_)
        obtain ⟨rfl, rfl⟩ := hR
        refine sv' hF (wn rfl) rfl rfl (R.assign (hF.ev rfl)) fun a hF => ?_
        refine s0 ?_
        refine then_n (hK22 _ _ ?_)
        refine wp_seq_k fun K23 hK23 => ?_
        have hK23' : ∀ a w, (∃ (b21 : Nat) (b23 : Nat), Fr 187 [(3, .bool true), (4, .pointer (some ⟨b4, 0, none⟩)), (21, .pointer (some ⟨b21, 0, none⟩)), (22, .int .i64 0), (23, .pointer (some ⟨b23, 0, none⟩)), (24, .int .i64 0)] a ∧ St w0 [] [[(b4, Cel (wc m) 29)], [(b21, Cel (wc m) 29)], [(b23, Cel (wc m) 29)]] w) → K23 a w := by
          rintro a w ⟨b21, b23, hF, hS⟩
          refine hK23 _ _ ?_
          refine wp_seq_k fun K24 hK24 => ?_
          refine wp_region_lit ?_
          refine sv' hF (wn rfl) rfl rfl (R.move (hF.ev rfl)) fun a hF => ?_
          refine sv' hF (wn rfl) rfl rfl (R.move (hF.ev rfl)) fun a hF => ?_
          refine sv' hF (wy hF rfl rfl rfl) rfl rfl (R.loadW agg29 (hF.ev rfl) hS (.t .h) sz29 (rfl)) fun a hF => ?_
          refine sv' hF (wy hF rfl rfl rfl) rfl rfl (R.loadW agg29 (hF.ev rfl) hS .h sz29 (rfl)) fun a hF => ?_
          refine sv' hF (wy hF rfl rfl rfl) rfl rfl (R.as (u := .bool true) (R.eqlW (x := m) (y := m) (hF.ev rfl) (hF.ev rfl) (hm) (hm)) (congrArg Value.bool (decide_eq_true (rfl)))) fun a hF => ?_
          refine sv' hF (wn rfl) rfl rfl (R.pickT (hF.ev rfl) (hF.ev rfl)) fun a hF => ?_
          refine sv' hF (wn rfl) rfl rfl (R.move (hF.ev rfl)) fun a hF => ?_
          refine sv' hF (wy hF rfl rfl rfl) rfl rfl (R.move (hF.ev rfl)) fun a hF => ?_
          refine sv' hF (wy hF rfl rfl rfl) rfl rfl (R.as (u := .bool true) (R.eql (p := 0) (q := 0) (hF.ev rfl) (hF.ev rfl)) (congrArg Value.bool (decide_eq_true (rfl)))) fun a hF => ?_
          refine sv' hF (wn rfl) rfl rfl (R.pickT (hF.ev rfl) (hF.ev rfl)) fun a hF => ?_
          refine sv' hF (wn rfl) rfl rfl (R.move (hF.ev rfl)) fun a hF => ?_
          refine sv' hF (wy hF rfl rfl rfl) rfl rfl (R.loadW agg29 (hF.ev rfl) hS (.t (.t .h)) sz29 (rfl)) fun a hF => ?_
          refine sv' hF (wy hF rfl rfl rfl) rfl rfl (R.loadW agg29 (hF.ev rfl) hS .h sz29 (rfl)) fun a hF => ?_
          refine sv' hF (wy hF rfl rfl rfl) rfl rfl (R.as (u := .bool true) (R.eqlW (x := m) (y := m) (hF.ev rfl) (hF.ev rfl) (hm) (hm)) (congrArg Value.bool (decide_eq_true (rfl)))) fun a hF => ?_
          refine sv' hF (wn rfl) rfl rfl (R.pickT (hF.ev rfl) (hF.ev rfl)) fun a hF => ?_
          refine sv' hF (wn rfl) rfl rfl (R.move (hF.ev rfl)) fun a hF => ?_
          refine sv' hF (wy hF rfl rfl rfl) rfl rfl (R.move (hF.ev rfl)) fun a hF => ?_
          refine sv' hF (wy hF rfl rfl rfl) rfl rfl (R.as (u := .bool true) (R.eql (p := 0) (q := 0) (hF.ev rfl) (hF.ev rfl)) (congrArg Value.bool (decide_eq_true (rfl)))) fun a hF => ?_
          refine sv' hF (wn rfl) rfl rfl (R.pickT (hF.ev rfl) (hF.ev rfl)) fun a hF => ?_
          refine sv' hF (wn rfl) rfl rfl (R.assign (hF.ev rfl)) fun a hF => ?_
          refine s0 ?_
          refine then_n (hK24 _ _ ?_)
          refine wp_ret (hR _ _ _ _ _ hF (run_results Try.results17 (.t hF rfl (.nil))) ?_)
          exact ⟨_, [], rfl, ⟨rfl, rfl⟩, hS.none⟩
        refine wp_seq_k fun K25 hK25 => ?_
        refine wp_region_lit ?_
        refine sv' hF (wn rfl) rfl rfl (R.move (hF.ev rfl)) fun a hF => ?_
        refine sv' hF (wn rfl) rfl rfl (R.as (u := .bool (decide (xs.length = 32))) (R.eql (p := if xs.length = 32 then 0 else 20) (q := 0) (hF.ev rfl) (hF.ev rfl)) (congrArg Value.bool (decide_eq_decide.2 (code_pos (by decide))))) fun a hF => ?_
        refine sv' hF (wn rfl) rfl rfl (R.move (hF.ev rfl)) fun a hF => ?_
        refine hF.splitD (t := 153) rfl (fun h153 hF => ?_) (fun h153 hF => ?_)
        ·
          refine sv' hF (wy hF rfl rfl rfl) rfl rfl (R.move (hF.ev rfl)) fun a hF => ?_
          refine sv' hF (wy hF rfl rfl rfl) rfl rfl (R.move (hF.ev rfl)) fun a hF => ?_
          refine so (wy hF rfl rfl rfl) (O.call rfl rfl hF ent67 (hF.evs rfl) hS (bytesAlike_back A2 A c2 c k xs w (hO2.rd hS (.t .h)) (hA.old hS) hk h153 hB) fun v s156 a w hR hF hS => ?_)
          obtain ⟨rfl, rfl⟩ := hR
          refine sv' hF (wy hF rfl rfl rfl) rfl rfl (R.as (u := .bool false) (R.not (b := true) (hF.ev rfl)) (rfl)) fun a hF => ?_
          refine sv' hF (wn rfl) rfl rfl (R.pickT (hF.ev rfl) (hF.ev rfl)) fun a hF => ?_
          refine sv' hF (wn rfl) rfl rfl (R.move (hF.ev rfl)) fun a hF => ?_
          refine sv' hF (wy hF rfl rfl rfl) rfl rfl (R.move (hF.ev rfl)) fun a hF => ?_
          refine sv' hF (wy hF rfl rfl rfl) rfl rfl (R.as (u := .bool (decide ((prs (bys s)).isSome = true))) (R.eql (p := if (prs (bys s)).isSome then 0 else 21) (q := 0) (hF.ev rfl) (hF.ev rfl)) (congrArg Value.bool (decide_eq_decide.2 (code_pos (by decide))))) fun a hF => ?_
          refine sv' hF (wy hF rfl rfl rfl) rfl rfl (R.move (hF.ev rfl)) fun a hF => ?_
          refine hF.splitD (t := 162) rfl (fun h162 hF => ?_) (fun h162 hF => ?_)
          ·
            refine sv' hF (wy hF rfl rfl rfl) rfl rfl (R.move (hF.ev rfl)) fun a hF => ?_
            refine sv' hF (wy hF rfl rfl rfl) rfl rfl (R.move (hF.ev rfl)) fun a hF => ?_
            refine sv' hF (wy hF rfl rfl rfl) rfl rfl (R.as (u := .bool false) (R.neqStr (hF.ev rfl) (hF.ev rfl)) (congrArg Value.bool (decide_eq_false (fun h => h (str_back h162))))) fun a hF => ?_
            refine sv' hF (wy hF rfl rfl rfl) rfl rfl (R.pickT (hF.ev rfl) (hF.ev rfl)) fun a hF => ?_
            refine sv' hF (wn rfl) rfl rfl (R.pickF (hF.ev rfl) (hF.ev rfl)) fun a hF => ?_
            refine s0 ?_
            refine then_n (hK25 _ _ ?_)
            refine cF hF rfl ?_
            refine wp_skip ?_
            exact then_n (hK23' _ _ ⟨b21, b23, hF.sub ⟨rfl, rfl, rfl, rfl, rfl, rfl, trivial⟩, hS.sel [13, 10, 7] rfl rfl⟩)
          ·
            refine sk hF (ws hF rfl rfl rfl rfl) rfl rfl fun a hF => ?_
            refine sk hF (ws hF rfl rfl rfl rfl) rfl rfl fun a hF => ?_
            refine sk hF (ws hF rfl rfl rfl rfl) rfl rfl fun a hF => ?_
            refine sv' hF (wy hF rfl rfl rfl) rfl rfl (R.pickF (hF.ev rfl) (hF.ev rfl)) fun a hF => ?_
            refine sv' hF (wn rfl) rfl rfl (R.pickF (hF.ev rfl) (hF.ev rfl)) fun a hF => ?_
            refine s0 ?_
            refine then_n (hK25 _ _ ?_)
            refine cF hF rfl ?_
            refine wp_skip ?_
            exact then_n (hK23' _ _ ⟨b21, b23, hF.sub ⟨rfl, rfl, rfl, rfl, rfl, rfl, trivial⟩, hS.sel [13, 10, 7] rfl rfl⟩)
        ·
          refine sk hF (ws hF rfl rfl rfl rfl) rfl rfl fun a hF => ?_
          refine sk hF (ws hF rfl rfl rfl rfl) rfl rfl fun a hF => ?_
          refine sk hF (ws hF rfl rfl rfl rfl) rfl rfl fun a hF => ?_
          refine sk hF (ws hF rfl rfl rfl rfl) rfl rfl fun a hF => ?_
          refine sv' hF (wn rfl) rfl rfl (R.pickF (hF.ev rfl) (hF.ev rfl)) fun a hF => ?_
          refine sv' hF (wn rfl) rfl rfl (R.move (hF.ev rfl)) fun a hF => ?_
          refine sv' hF (wy hF rfl rfl rfl) rfl rfl (R.move (hF.ev rfl)) fun a hF => ?_
          refine sv' hF (wy hF rfl rfl rfl) rfl rfl (R.as (u := .bool (decide ((prs (bys s)).isSome = true))) (R.eql (p := if (prs (bys s)).isSome then 0 else 21) (q := 0) (hF.ev rfl) (hF.ev rfl)) (congrArg Value.bool (decide_eq_decide.2 (code_pos (by decide))))) fun a hF => ?_
          refine sv' hF (wy hF rfl rfl rfl) rfl rfl (R.move (hF.ev rfl)) fun a hF => ?_
          refine hF.splitD (t := 162) rfl (fun h162 hF => ?_) (fun h162 hF => ?_)
          ·
            refine sv' hF (wy hF rfl rfl rfl) rfl rfl (R.move (hF.ev rfl)) fun a hF => ?_
            refine sv' hF (wy hF rfl rfl rfl) rfl rfl (R.move (hF.ev rfl)) fun a hF => ?_
            refine sv' hF (wy hF rfl rfl rfl) rfl rfl (R.as (u := .bool false) (R.neqStr (hF.ev rfl) (hF.ev rfl)) (congrArg Value.bool (decide_eq_false (fun h => h (str_back h162))))) fun a hF => ?_
            refine sv' hF (wy hF rfl rfl rfl) rfl rfl (R.pickT (hF.ev rfl) (hF.ev rfl)) fun a hF => ?_
            refine sv' hF (wn rfl) rfl rfl (R.pickF (hF.ev rfl) (hF.ev rfl)) fun a hF => ?_
            refine s0 ?_
            refine then_n (hK25 _ _ ?_)
            refine cF hF rfl ?_
            refine wp_skip ?_
            exact then_n (hK23' _ _ ⟨b21, b23, hF.sub ⟨rfl, rfl, rfl, rfl, rfl, rfl, trivial⟩, hS.sel [12, 9, 6] rfl rfl⟩)
          ·
            refine sk hF (ws hF rfl rfl rfl rfl) rfl rfl fun a hF => ?_
            refine sk hF (ws hF rfl rfl rfl rfl) rfl rfl fun a hF => ?_
            refine sk hF (ws hF rfl rfl rfl rfl) rfl rfl fun a hF => ?_
            refine sv' hF (wy hF rfl rfl rfl) rfl rfl (R.pickF (hF.ev rfl) (hF.ev rfl)) fun a hF => ?_
            refine sv' hF (wn rfl) rfl rfl (R.pickF (hF.ev rfl) (hF.ev rfl)) fun a hF => ?_
            refine s0 ?_
            refine then_n (hK25 _ _ ?_)
            refine cF hF rfl ?_
            refine wp_skip ?_
            exact then_n (hK23' _ _ ⟨b21, b23, hF.sub ⟨rfl, rfl, rfl, rfl, rfl, rfl, trivial⟩, hS.sel [12, 9, 6] rfl rfl⟩)
      refine wp_seq_k fun K26 hK26 => ?_
      refine wp_region_lit ?_
      refine sv' hF (wn rfl) rfl rfl (R.move (hF.ev rfl)) fun a hF => ?_
      refine sv' hF (wn rfl) rfl rfl (R.as (u := .bool (decide (m * n < 115792089237316195423570985008687907853269984665640564039457584007913129639936))) (R.eql (p := if m * n < 115792089237316195423570985008687907853269984665640564039457584007913129639936 then 0 else 22) (q := 0) (hF.ev rfl) (hF.ev rfl)) (congrArg Value.bool (decide_eq_decide.2 (code_pos (by decide))))) fun a hF => ?_
      refine sv' hF (wn rfl) rfl rfl (R.move (hF.ev rfl)) fun a hF => ?_
      refine hF.splitD (t := 115) rfl (fun h115 hF => ?_) (fun h115 hF => ?_)
      ·
        have eP : (if m * n < 115792089237316195423570985008687907853269984665640564039457584007913129639936 then m * n else 0) = m * n := if_pos h115; have hqd : m * n / q < 115792089237316195423570985008687907853269984665640564039457584007913129639936 := Nat.lt_of_le_of_lt (Nat.div_le_self _ _) h115
        refine sv' hF (wy hF rfl rfl rfl) rfl rfl (R.move (hF.ev rfl)) fun a hF => ?_
        refine sv' hF (wy hF rfl rfl rfl) rfl rfl (R.move (hF.ev rfl)) fun a hF => ?_
        refine sv' hF (wy hF rfl rfl rfl) rfl rfl (R.as (u := .bool false) (R.neq (p := if q = 0 then 24 else if m * n / q < 115792089237316195423570985008687907853269984665640564039457584007913129639936 then 0 else 22) (q := if q = 0 then 24 else 0) (hF.ev rfl) (hF.ev rfl)) (congrArg Value.bool (decide_eq_false (fun h => h (by rw [if_pos hqd]))))) fun a hF => ?_
        refine sv' hF (wy hF rfl rfl rfl) rfl rfl (R.move (hF.ev rfl)) fun a hF => ?_
        refine sv' hF (wy hF rfl rfl rfl) rfl rfl (R.loadW agg29 (hF.ev rfl) hS (.t (.t (.t .h))) sz29 (rfl)) fun a hF => ?_
        refine sv' hF (wy hF rfl rfl rfl) rfl rfl (R.loadW agg29 (hF.ev rfl) hS (.t (.t (.t (.t .h)))) sz29 (rfl)) fun a hF => ?_
        refine sv' hF (wy hF rfl rfl rfl) rfl rfl (R.as (u := .bool false) (R.neqW (x := (if q = 0 then 0 else if m * n / q < 115792089237316195423570985008687907853269984665640564039457584007913129639936 then m * n / q else 0)) (y := (if q = 0 then 0 else (if m * n < 115792089237316195423570985008687907853269984665640564039457584007913129639936 then m * n else 0) / q)) (hF.ev rfl) (hF.ev rfl) (muldiv_if) (div_if (fit_lt fun h => h))) (congrArg Value.bool (decide_eq_false (fun h => h (by rw [if_pos hqd, eP]))))) fun a hF => ?_
        refine sv' hF (wy hF rfl rfl rfl) rfl rfl (R.pickF (hF.ev rfl) (hF.ev rfl)) fun a hF => ?_
        refine sv' hF (wn rfl) rfl rfl (R.pickT (hF.ev rfl) (hF.ev rfl)) fun a hF => ?_
        refine s0 ?_
        refine then_n (hK26 _ _ ?_)
        refine cF hF rfl ?_
        refine wp_skip ?_
        exact then_n (hK16' _ _ ⟨hF.sub ⟨rfl, rfl, rfl, rfl, rfl, rfl, trivial⟩, hS.sel [0, 1, 2] rfl rfl⟩)
      ·
        refine sk hF (ws hF rfl rfl rfl rfl) rfl rfl fun a hF => ?_
        refine sk hF (ws hF rfl rfl rfl rfl) rfl rfl fun a hF => ?_
        refine sk hF (ws hF rfl rfl rfl rfl) rfl rfl fun a hF => ?_
        refine sk hF (ws hF rfl rfl rfl rfl) rfl rfl fun a hF => ?_
        refine sk hF (wu hF rfl rfl rfl) rfl rfl fun a hF => ?_
        refine sk hF (wu hF rfl rfl rfl) rfl rfl fun a hF => ?_
        refine sk hF (wu hF rfl rfl rfl) rfl rfl fun a hF => ?_
        refine sk hF (ws hF rfl rfl rfl rfl) rfl rfl fun a hF => ?_
        refine sv' hF (wn rfl) rfl rfl (R.pickF (hF.ev rfl) (hF.ev rfl)) fun a hF => ?_
        refine s0 ?_
        refine then_n (hK26 _ _ ?_)
        refine cF hF rfl ?_
        refine wp_skip ?_
        exact then_n (hK16' _ _ ⟨hF.sub ⟨rfl, rfl, rfl, rfl, rfl, rfl, trivial⟩, hS.sel [0, 1, 2] rfl rfl⟩)
    refine wp_seq_k fun K27 hK27 => ?_
    refine wp_region_lit ?_
    refine sv' hF (wn rfl) rfl rfl (R.move (hF.ev rfl)) fun a hF => ?_
    refine sv' hF (wn rfl) rfl rfl (R.as (u := .bool (decide (m * n < 115792089237316195423570985008687907853269984665640564039457584007913129639936))) (R.eql (p := if m * n < 115792089237316195423570985008687907853269984665640564039457584007913129639936 then 0 else 22) (q := 0) (hF.ev rfl) (hF.ev rfl)) (congrArg Value.bool (decide_eq_decide.2 (code_pos (by decide))))) fun a hF => ?_
    refine sv' hF (wn rfl) rfl rfl (R.move (hF.ev rfl)) fun a hF => ?_
    refine hF.splitD (t := 94) rfl (fun h94 hF => ?_) (fun h94 hF => ?_)
    ·
      have eP : (if m * n < 115792089237316195423570985008687907853269984665640564039457584007913129639936 then m * n else 0) = m * n := if_pos h94
      refine sv' hF (wy hF rfl rfl rfl) rfl rfl (R.loadW agg29 (hF.ev rfl) hS (.t (.t (.t (.t (.t (.t (.t (.t (.t (.t (.t .h))))))))))) sz29 (rfl)) fun a hF => ?_
      refine sv' hF (wy hF rfl rfl rfl) rfl rfl (R.buildArr (l := wc 0) Try.underlying29 ze29 sz27 (hF.evp rfl) rfl) fun a hF => ?_
      refine sv' hF (wy hF rfl rfl rfl) rfl rfl (R.neqW (x := n) (y := 0) (hF.ev rfl) (hF.ev rfl) hn (by decide)) fun a hF => ?_
      refine sv' hF (wn rfl) rfl rfl (R.pickT (hF.ev rfl) (hF.ev rfl)) fun a hF => ?_
      refine sv' hF (wn rfl) rfl rfl (R.move (hF.ev rfl)) fun a hF => ?_
      refine hF.splitD (t := 99) rfl (fun h99 hF => ?_) (fun h99 hF => ?_)
      ·
        refine sv' hF (wy hF rfl rfl rfl) rfl rfl (R.move (hF.ev rfl)) fun a hF => ?_
        refine sv' hF (wy hF rfl rfl rfl) rfl rfl (R.as (u := .bool false) (R.neq (p := if n = 0 then 24 else 0) (q := 0) (hF.ev rfl) (hF.ev rfl)) (congrArg Value.bool (decide_eq_false (fun h => h (if_neg h99))))) fun a hF => ?_
        refine sv' hF (wy hF rfl rfl rfl) rfl rfl (R.move (hF.ev rfl)) fun a hF => ?_
        refine sv' hF (wy hF rfl rfl rfl) rfl rfl (R.loadW agg29 (hF.ev rfl) hS (.t (.t (.t (.t (.t (.t .h)))))) sz29 (rfl)) fun a hF => ?_
        refine sv' hF (wy hF rfl rfl rfl) rfl rfl (R.loadW agg29 (hF.ev rfl) hS (.t (.t (.t (.t (.t (.t (.t (.t (.t (.t .h)))))))))) sz29 (rfl)) fun a hF => ?_
        refine sv' hF (wy hF rfl rfl rfl) rfl rfl (R.as (u := .bool false) (R.neqW (x := (if n = 0 then 0 else (if m * n < 115792089237316195423570985008687907853269984665640564039457584007913129639936 then m * n else 0) / n)) (y := m) (hF.ev rfl) (hF.ev rfl) (div_if (fit_lt fun h => h)) (hm)) (congrArg Value.bool (decide_eq_false (fun h => h (by rw [if_neg h99, eP]; exact Nat.mul_div_cancel _ (by omega)))))) fun a hF => ?_
        refine sv' hF (wy hF rfl rfl rfl) rfl rfl (R.pickF (hF.ev rfl) (hF.ev rfl)) fun a hF => ?_
        refine sv' hF (wy hF rfl rfl rfl) rfl rfl (R.move (hF.ev rfl)) fun a hF => ?_
        refine sv' hF (wy hF rfl rfl rfl) rfl rfl (R.loadW agg29 (hF.ev rfl) hS (.t (.t (.t (.t (.t .h))))) sz29 (rfl)) fun a hF => ?_
        refine sv' hF (wy hF rfl rfl rfl) rfl rfl (R.buildArr (l := wc 0) Try.underlying29 ze29 sz27 (hF.evp rfl) rfl) fun a hF => ?_
        refine sv' hF (wy hF rfl rfl rfl) rfl rfl (R.as (u := .bool false) (R.neqW (x := (if n = 0 then 0 else (if m * n < 115792089237316195423570985008687907853269984665640564039457584007913129639936 then m * n else 0) % n)) (y := 0) (hF.ev rfl) (hF.ev rfl) (mod_if (fit_lt fun h => h)) (by decide)) (congrArg Value.bool (decide_eq_false (fun h => h (by rw [if_neg h99, eP]; exact Nat.mul_mod_left _ _))))) fun a hF => ?_
        refine sv' hF (wy hF rfl rfl rfl) rfl rfl (R.pickF (hF.ev rfl) (hF.ev rfl)) fun a hF => ?_
        refine sv' hF (wn rfl) rfl rfl (R.pickT (hF.ev rfl) (hF.ev rfl)) fun a hF => ?_
        refine s0 ?_
        refine then_n (hK27 _ _ ?_)
        refine cF hF rfl ?_
        refine wp_skip ?_
        exact then_n (hK15' _ _ ⟨b16, b18, hF.sub ⟨rfl, rfl, rfl, rfl, rfl, rfl, rfl, rfl, rfl, rfl, rfl, trivial⟩, hS.sel [10, 11, 12, 3, 1] rfl rfl⟩)
      ·
        refine sk hF (ws hF rfl rfl rfl rfl) rfl rfl fun a hF => ?_
        refine sk hF (ws hF rfl rfl rfl rfl) rfl rfl fun a hF => ?_
        refine sk hF (ws hF rfl rfl rfl rfl) rfl rfl fun a hF => ?_
        refine sk hF (wu hF rfl rfl rfl) rfl rfl fun a hF => ?_
        refine sk hF (wu hF rfl rfl rfl) rfl rfl fun a hF => ?_
        refine sk hF (wu hF rfl rfl rfl) rfl rfl fun a hF => ?_
        refine sk hF (ws hF rfl rfl rfl rfl) rfl rfl fun a hF => ?_
        refine sk hF (ws hF rfl rfl rfl rfl) rfl rfl fun a hF => ?_
        refine sk hF (wu hF rfl rfl rfl) rfl rfl fun a hF => ?_
        refine sk hF (wu hF rfl rfl rfl) rfl rfl fun a hF => ?_
        refine sk hF (wu hF rfl rfl rfl) rfl rfl fun a hF => ?_
        refine sk hF (ws hF rfl rfl rfl rfl) rfl rfl fun a hF => ?_
        refine sv' hF (wn rfl) rfl rfl (R.pickF (hF.ev rfl) (hF.ev rfl)) fun a hF => ?_
        refine s0 ?_
        refine then_n (hK27 _ _ ?_)
        refine cF hF rfl ?_
        refine wp_skip ?_
        exact then_n (hK15' _ _ ⟨b16, b18, hF.sub ⟨rfl, rfl, rfl, rfl, rfl, rfl, rfl, rfl, rfl, rfl, rfl, trivial⟩, hS.sel [10, 11, 12, 3, 1] rfl rfl⟩)
    ·
      refine sk hF (ws hF rfl rfl rfl rfl) rfl rfl fun a hF => ?_
      refine sk hF (ws hF rfl rfl rfl rfl) rfl rfl fun a hF => ?_
      refine sk hF (ws hF rfl rfl rfl rfl) rfl rfl fun a hF => ?_
      refine sv' hF (wn rfl) rfl rfl (R.pickF (hF.ev rfl) (hF.ev rfl)) fun a hF => ?_
      refine sv' hF (wn rfl) rfl rfl (R.move (hF.ev rfl)) fun a hF => ?_
      refine sk hF (ws hF rfl rfl rfl rfl) rfl rfl fun a hF => ?_
      refine sk hF (ws hF rfl rfl rfl rfl) rfl rfl fun a hF => ?_
      refine sk hF (ws hF rfl rfl rfl rfl) rfl rfl fun a hF => ?_
      refine sk hF (wu hF rfl rfl rfl) rfl rfl fun a hF => ?_
      refine sk hF (wu hF rfl rfl rfl) rfl rfl fun a hF => ?_
      refine sk hF (wu hF rfl rfl rfl) rfl rfl fun a hF => ?_
      refine sk hF (ws hF rfl rfl rfl rfl) rfl rfl fun a hF => ?_
      refine sk hF (ws hF rfl rfl rfl rfl) rfl rfl fun a hF => ?_
      refine sk hF (wu hF rfl rfl rfl) rfl rfl fun a hF => ?_
      refine sk hF (wu hF rfl rfl rfl) rfl rfl fun a hF => ?_
      refine sk hF (wu hF rfl rfl rfl) rfl rfl fun a hF => ?_
      refine sk hF (ws hF rfl rfl rfl rfl) rfl rfl fun a hF => ?_
      refine sv' hF (wn rfl) rfl rfl (R.pickF (hF.ev rfl) (hF.ev rfl)) fun a hF => ?_
      refine s0 ?_
      refine then_n (hK27 _ _ ?_)
      refine cF hF rfl ?_
      refine wp_skip ?_
      exact then_n (hK15' _ _ ⟨b16, b18, hF.sub ⟨rfl, rfl, rfl, rfl, rfl, rfl, rfl, rfl, rfl, rfl, rfl, trivial⟩, hS.sel [10, 11, 12, 3, 1] rfl rfl⟩)
  refine wp_seq_k fun K28 hK28 => ?_
  refine wp_region_lit ?_
  refine sv' hF (wn rfl) rfl rfl (R.move (hF.ev rfl)) fun a hF => ?_
  refine sv' hF (wn rfl) rfl rfl (R.as (u := .bool (decide (m + n < 115792089237316195423570985008687907853269984665640564039457584007913129639936))) (R.eql (p := if m + n < 115792089237316195423570985008687907853269984665640564039457584007913129639936 then 0 else 22) (q := 0) (hF.ev rfl) (hF.ev rfl)) (congrArg Value.bool (decide_eq_decide.2 (code_pos (by decide))))) fun a hF => ?_
  refine sv' hF (wn rfl) rfl rfl (R.move (hF.ev rfl)) fun a hF => ?_
  refine hF.splitD (t := 56) rfl (fun h56 hF => ?_) (fun h56 hF => ?_)
  ·
    have eP : (if m + n < 115792089237316195423570985008687907853269984665640564039457584007913129639936 then m + n else 0) = m + n := if_pos h56
    refine sv' hF (wy hF rfl rfl rfl) rfl rfl (R.move (hF.ev rfl)) fun a hF => ?_
    refine sv' hF (wy hF rfl rfl rfl) rfl rfl (R.as (u := .bool false) (R.neq (p := if n ≤ (if m + n < 115792089237316195423570985008687907853269984665640564039457584007913129639936 then m + n else 0) then 0 else 23) (q := 0) (hF.ev rfl) (hF.ev rfl)) (congrArg Value.bool (decide_eq_false (fun h => h (if_pos (by rw [eP]; omega)))))) fun a hF => ?_
    refine sv' hF (wy hF rfl rfl rfl) rfl rfl (R.move (hF.ev rfl)) fun a hF => ?_
    refine sv' hF (wy hF rfl rfl rfl) rfl rfl (R.loadW agg29 (hF.ev rfl) hS .h sz29 (rfl)) fun a hF => ?_
    refine sv' hF (wy hF rfl rfl rfl) rfl rfl (R.loadW agg29 (hF.ev rfl) hS (.t (.t (.t (.t (.t (.t .h)))))) sz29 (rfl)) fun a hF => ?_
    refine sv' hF (wy hF rfl rfl rfl) rfl rfl (R.as (u := .bool false) (R.neqW (x := (if n ≤ (if m + n < 115792089237316195423570985008687907853269984665640564039457584007913129639936 then m + n else 0) then (if m + n < 115792089237316195423570985008687907853269984665640564039457584007913129639936 then m + n else 0) - n else 0)) (y := m) (hF.ev rfl) (hF.ev rfl) (fit_lt fun _ => Nat.lt_of_le_of_lt (Nat.sub_le _ _) (fit_lt fun h => h)) (hm)) (congrArg Value.bool (decide_eq_false (fun h => h (by rw [if_pos (by rw [eP]; omega), eP]; omega))))) fun a hF => ?_
    refine sv' hF (wy hF rfl rfl rfl) rfl rfl (R.pickF (hF.ev rfl) (hF.ev rfl)) fun a hF => ?_
    refine sv' hF (wn rfl) rfl rfl (R.pickT (hF.ev rfl) (hF.ev rfl)) fun a hF => ?_
    refine s0 ?_
    refine then_n (hK28 _ _ ?_)
    refine cF hF rfl ?_
    refine wp_skip ?_
    exact then_n (hK10' _ _ ⟨hF.sub ⟨rfl, rfl, rfl, rfl, rfl, rfl, trivial⟩, hS.sel [6, 5, 4] rfl rfl⟩)
  ·
    refine sk hF (ws hF rfl rfl rfl rfl) rfl rfl fun a hF => ?_
    refine sk hF (ws hF rfl rfl rfl rfl) rfl rfl fun a hF => ?_
    refine sk hF (ws hF rfl rfl rfl rfl) rfl rfl fun a hF => ?_
    refine sk hF (wu hF rfl rfl rfl) rfl rfl fun a hF => ?_
    refine sk hF (wu hF rfl rfl rfl) rfl rfl fun a hF => ?_
    refine sk hF (wu hF rfl rfl rfl) rfl rfl fun a hF => ?_
    refine sk hF (ws hF rfl rfl rfl rfl) rfl rfl fun a hF => ?_
    refine sv' hF (wn rfl) rfl rfl (R.pickF (hF.ev rfl) (hF.ev rfl)) fun a hF => ?_
    refine s0 ?_
    refine then_n (hK28 _ _ ?_)
    refine cF hF rfl ?_
    refine wp_skip ?_
    exact then_n (hK10' _ _ ⟨hF.sub ⟨rfl, rfl, rfl, rfl, rfl, rfl, trivial⟩, hS.sel [6, 5, 4] rfl rfl⟩)

end Go.Proofs.Ythgecfjpacebeaa
