/- The walk of MachineHosts. -/
import Derived.Test.YtlapmbkfmbkdoaaFh
namespace Go.Proofs.Ytlapmbkfmbkdoaa
open Go Go.Fw Go.RowKit
attribute [local irreducible] Go.Oper.wp Go.Code.wp Go.wpList Go.Fw.WL Go.Calls
theorem flat_take {α : Type} {f : α → List Value} {m : Nat} (hf : ∀ x, (f x).length = m) (l : List α) (k : Nat) : (l.flatMap f).take (k * m) = (l.take k).flatMap f := by
  induction l generalizing k with
  | nil => simp
  | cons x l ih =>
    cases k with
    | zero => simp
    | succ k =>
      rw [List.flatMap_cons, List.take_succ_cons, List.flatMap_cons, List.take_append, List.take_of_length_le (by rw [hf, Nat.add_mul]; omega), hf, show (k + 1) * m - m = k * m by rw [Nat.add_mul]; omega, ih]
theorem flat_drop {α : Type} {f : α → List Value} {m : Nat} (hf : ∀ x, (f x).length = m) (l : List α) (k : Nat) : (l.flatMap f).drop (k * m) = (l.drop k).flatMap f := by
  induction l generalizing k with
  | nil => simp
  | cons x l ih =>
    cases k with
    | zero => simp
    | succ k =>
      rw [List.flatMap_cons, List.drop_succ_cons, List.drop_append, List.drop_of_length_le (by rw [hf, Nat.add_mul]; omega), hf, show (k + 1) * m - m = k * m by rw [Nat.add_mul]; omega, ih, List.nil_append]
theorem flat_len {α : Type} {f : α → List Value} {m : Nat} (hf : ∀ x, (f x).length = m) (l : List α) : (l.flatMap f).length = l.length * m := by
  induction l with
  | nil => simp
  | cons x l ih => rw [List.flatMap_cons, List.length_append, hf, ih, List.length_cons, Nat.add_mul]; omega
theorem flat_splR {α : Type} {f : α → List Value} {m : Nat} (hf : ∀ x, (f x).length = m) {l : List α} {rest : List Value} {k : Nat} {v : α} {off : Nat} (hk : k < l.length) (ho : off = k * m) : spl (l.flatMap f ++ rest) off (f v) = (l.set k v).flatMap f ++ rest := by
  subst ho
  have h1 : k * m + m ≤ (l.flatMap f).length := by rw [flat_len hf, ← Nat.succ_mul]; exact Nat.mul_le_mul_right _ hk
  rw [spl, hf, List.take_append_of_le_length (by omega), List.drop_append_of_le_length h1, flat_take hf, show k * m + m = (k + 1) * m by rw [Nat.add_mul]; omega, flat_drop hf, List.set_eq_take_append_cons_drop, if_pos hk, List.flatMap_append, List.flatMap_cons]
  simp only [List.append_assoc]
theorem len_repc (r : Nat × Int) : (repc r).length = 5 := rfl
theorem len_askc (q : Fw.Ask) : (askc q).length = 30 := rfl
theorem rd_app {w : World} {A : Option Addr} {xs ys : List Value} (h : Rd w A (xs ++ ys)) : Rd w A xs := by
  have := h.sub xs.length
  rwa [List.take_left] at this
theorem getD_snoc0 (l : List (Nat × Int)) (i : Nat) : (l ++ [(0, 0)]).getD i (0, 0) = l.getD i (0, 0) := by
  rw [List.getD_eq_getElem?_getD, List.getD_eq_getElem?_getD]
  by_cases h : i < l.length
  · rw [List.getElem?_append_left h]
  · rw [List.getElem?_append_right (by omega), List.getElem?_eq_none (l := l) (by omega)]
    cases hi : i - l.length with
    | zero => rfl
    | succ j => simp
theorem own_rep0 {s : Seg} {A : Option Addr} {c : Nat} {l : List (Nat × Int)} (h : OwnS s A (l.length + 1) c (l.flatMap repc ++ repc (0, 0)) 48 5) : OwnS s A (l ++ [(0, 0)]).length c ((l ++ [(0, 0)]).flatMap repc) 48 5 := by
  rw [List.flatMap_append, List.length_append]; simpa using h
theorem reps_ok0 {l : List (Nat × Int)} (h : ∀ r ∈ l, repOk r) : ∀ r ∈ l ++ [(0, 0)], repOk r := by
  intro r hr
  rcases List.mem_append.1 hr with h1 | h1
  · exact h r h1
  · rw [List.mem_singleton.1 h1]; exact ⟨by decide, ⟨by show _ ≤ (0 : Int); decide, by show (0 : Int) ≤ _; decide⟩⟩
theorem reps_okS {l : List (Nat × Int)} {k : Nat} {v : Nat × Int} (h : ∀ r ∈ l, repOk r) (hv : repOk v) : ∀ r ∈ l.set k v, repOk r := by
  intro r hr
  rcases List.mem_or_eq_of_mem_set hr with h1 | h1
  · exact h r h1
  · rw [h1]; exact hv
def WX : Nat := 25108406941546723056364004793593481054836439088298861789185
theorem wx_ex : ∃ v : Nat, v < 115792089237316195423570985008687907853269984665640564039457584007913129639936 ∧ [Value.int .u64 1, .int .u64 2, .int .u64 3, .int .u64 4] = wc v := ⟨WX, by decide, by kernel_rfl⟩
def hostF (F : Fx) (A : Option Addr) (c : Nat) (l : List (Nat × Int)) : Fx := { F with qA := A, qc := c, reps := l }
theorem PlayIn.hostF {F : Fx} {w : World} (h : PlayIn F w) {A : Option Addr} {c : Nat} {l : List (Nat × Int)} (hl : l.length ≤ 3518437208781) (hr : ∀ r ∈ l, repOk r) (hR : Rd w A (l.flatMap repc)) : PlayIn (hostF F A c l) w := ⟨⟨h.ok.byt, h.ok.cap, h.ok.cap2, h.ok.argsW, h.ok.acap, h.ok.acap2, h.ok.self, h.ok.caller, h.ok.amount, fun r hr2 => (hr r hr2).1, Nat.le_trans hl (by decide)⟩, h.inner, h.code, h.args, hR, h.b1, h.b2, hl, h.tok, h.time, h.gas, fun r hr2 => (hr r hr2).2⟩
theorem playH (F : Fx) (A : Option Addr) (c k vx : Nat) (hvx : vx < 115792089237316195423570985008687907853269984665640564039457584007913129639936) (e : Int) (l l2 : List (Nat × Int)) (w0 : World) (hp : PlayIn F w0) (hl2 : l2 = l.set k (vx, e)) (hl : l2.length ≤ 3518437208781) (hr : ∀ r ∈ l, repOk r) (he : i64OK e) (hR : Rd w0 A (l2.flatMap repc)) (hk : k < (playN F.cl F.code F.rep).asks.length) (hkl : k < l.length) (hs : ∀ i, l.getD i (0, 0) = F.reps.getD i (0, 0)) (he1 : e ≠ 0) :
    Ret Try.prog 15 [.agg (plays (hostF F A c l2)).toArray, .slice none 0 0] w0 [] (RunR ⟨0, 0, e, (playN F.cl F.code F.rep).asks.take (k + 1)⟩) := by
  have := play0 (hostF F A c l2) w0 (hp.hostF hl (hl2 ▸ reps_okS hr ⟨hvx, he⟩) hR)
  have hk2 : (hostF F A c l2).rep k = (vx, e) := by
    show l2.getD k (0, 0) = _
    rw [hl2, List.getD_eq_getElem?_getD, List.getElem?_set_self hkl]; rfl
  have hh : playN (hostF F A c l2).cl (hostF F A c l2).code (hostF F A c l2).rep = ⟨0, 0, e, (playN F.cl F.code F.rep).asks.take (k + 1)⟩ := by
    have := play_host (cl := F.cl) (code := F.code) (rep := F.rep) (rep' := (hostF F A c l2).rep) (k := k) (fun i hi => by
      show l2.getD i (0, 0) = F.reps.getD i (0, 0)
      rw [← hs i, hl2, List.getD_eq_getElem?_getD, List.getElem?_set_ne (by omega), List.getD_eq_getElem?_getD]) (by rw [hk2]; exact he1) hk
    rw [hk2] at this
    exact this
  rw [hh] at this
  exact this
theorem run_asks {F : Fx} (hK : F.Ok) : ∀ (f : Nat) (stk : List Nat) (left p : Nat) (asks : List Fw.Ask), validP F.code p → stk.length ≤ 64 → AllW stk → left ≤ 10000 → (Fw.runN F.cl F.code F.rep f stk left p asks).asks.length ≤ asks.length + left + 1
  | 0, _, _, _, _, _, _, _, _ => by simp only [Fw.runN]; omega
  | f + 1, stk, left, p, asks, hv, hl, hW, hq => by
    cases hd : stp F.cl F.code F.rep stk left p asks with
    | more stk' left' p' asks' =>
      obtain ⟨k1, k2, k3, k4, k5⟩ := stp_more hK hv hl hW hq hd
      rw [runN_more hd]
      have := run_asks hK f stk' left' p' asks' k1 k2 k3 (by omega)
      omega
    | fin v l a =>
      rw [runN_fin hd]
      rcases stp_ask F.cl F.code stk left p asks with ⟨o, h1, h2⟩ | ⟨q, st', l', p', h1⟩
      · have h2 := h2 F.rep
        rw [hd] at h2; subst h2
        have : a = asks := h1
        subst this; dsimp only; omega
      · have h1 := h1 F.rep
        rw [hd] at h1
        split at h1 <;> cases h1
    | err e a =>
      rw [runN_err hd]
      rcases stp_ask F.cl F.code stk left p asks with ⟨o, h1, h2⟩ | ⟨q, st', l', p', h1⟩
      · have h2 := h2 F.rep
        rw [hd] at h2; subst h2
        have : a = asks := h1
        subst this; dsimp only; omega
      · have h1 := h1 F.rep
        rw [hd] at h1
        split at h1
        · cases h1; simp
        · cases h1
theorem play_asks {F : Fx} (h0 : Fx.Ok0 F) : (playN F.cl F.code F.rep).asks.length ≤ 10001 := by
  cases h1 : chkN F.code with
  | false => simp [playN, h1]
  | true =>
    cases h2 : callOk F.cl with
    | false => simp [playN, h1, h2]
    | true =>
      have hK := ok_of h0 h1 h2
      obtain ⟨c1, c2, c3, c4, c5, c6, c7⟩ := callOk_iff.1 h2
      have ha : (playN F.cl F.code F.rep).asks = (Fw.runN F.cl F.code F.rep (F.cl.gas.toNat + 1) [] F.cl.gas.toNat 0 []).asks := by
        rw [play_run h1 h2]; dsimp only; split <;> rfl
      rw [ha]
      have := run_asks hK (F.cl.gas.toNat + 1) [] F.cl.gas.toNat 0 [] (valid_0 h1) (Nat.zero_le _) (by intro x hx; simp at hx) (by omega)
      simp only [List.length_nil] at this
      omega

set_option maxHeartbeats 4000000 in
theorem hosts_calls (F : Fx) (k e : Int) (w0 : World) (hp : PlayIn F w0) (hk : -9223372036854775808 ≤ k ∧ k ≤ 9223372036854775807) (he : -9223372036854775808 ≤ e ∧ e ≤ 9223372036854775807) : Ret Try.prog 7 [.agg (plays F).toArray, .int .i64 k, .int .i64 e] w0 [] (fun v s => v = .bool true ∧ s = []) := by
  refine fn_start Try.func7 rfl Try.ntmps7 rfl [(0, .agg (plays F).toArray), (1, .int .i64 k), (2, .int .i64 e)] ⟨rfl, rfl, rfl, trivial⟩ ?_
  intro Q a hP hF hR hN
  have hS := St.start w0
  refine wp_seq_k fun K1 hK1 => ?_
  refine wp_region_lit ?_
  refine so (wn rfl) (O.box rfl rfl hF (hF.ev rfl) rfl hS fun b3 a w hF hS => ?_)
  refine sv' hF (wn rfl) rfl rfl (R.assign (hF.ev rfl)) fun a hF => ?_
  refine s0 ?_
  refine then_n (hK1 _ _ ?_)
  refine wp_seq_k fun K2 hK2 => ?_
  refine wp_region_lit ?_
  refine sv' hF (wn rfl) rfl rfl (R.loadW agg37 (hF.ev rfl) hS .h sz37 (rfl)) fun a hF => ?_
  refine so (wn rfl) (O.call rfl rfl hF ent15 (hF.evs rfl) hS (play0 F w (hp.old hS)) fun v s16 a w hR hF hS => ?_)
  obtain ⟨A16, c16, rfl, hO16⟩ := hR
  refine sv' hF (wn rfl) rfl rfl (R.move (hF.ev rfl)) fun a hF => ?_
  refine sv' hF (wn rfl) rfl rfl (R.extract (hF.ev rfl) rfl) fun a hF => ?_
  refine sv' hF (wn rfl) rfl rfl (R.extract (hF.ev rfl) rfl) fun a hF => ?_
  refine sv' hF (wn rfl) rfl rfl (R.extract (hF.ev rfl) rfl) fun a hF => ?_
  refine so (wn rfl) (O.alloc rfl rfl hF ze39 rfl hS fun b7 a w hF hS => ?_)
  refine so (wn rfl) (O.storeW sz39 (hF.ev rfl) (hF.ev rfl) (rfl) rfl (by simp [Value.oneCell']) hS .h (rfl) fun w hS => ?_)
  refine sv' hF (wn rfl) rfl rfl (R.assign (hF.ev rfl)) fun a hF => ?_
  refine sv' hF (wn rfl) rfl rfl (R.assign (hF.ev rfl)) fun a hF => ?_
  refine s0 ?_
  refine then_n (hK2 _ _ ?_)
  refine wp_seq_k fun K3 hK3 => ?_
  refine wp_seq_k fun K4 hK4 => ?_
  have hK4' : ∀ a w, (Fr 85 [(1, .int .i64 k), (2, .int .i64 e), (3, .pointer (some ⟨b3, 0, none⟩)), (9, .slice A16 (playN F.cl F.code F.rep).asks.length c16), (35, .bool (decide (k < 0 ∨ (((playN F.cl F.code F.rep).asks.length : Nat) : Int) ≤ k ∨ e < 1 ∨ 999 < e)))] a ∧ St w0 [] [s16, [(b3, Cel (plays F) 37)]] w) → K4 a w := by
    rintro a w ⟨hF, hS⟩
    refine hK4 _ _ ?_
    refine cD hF rfl (fun c1 => ?_) (fun c1 => ?_)
    ·
      refine wp_seq_k fun K5 hK5 => ?_
      refine wp_region_lit ?_
      refine so (wn rfl) (O.call rfl rfl hF ent11 (hF.evs rfl) hS (alive_calls _) fun v s36 a w hR hF hS => ?_)
      obtain ⟨rfl, rfl⟩ := hR
      refine sv' hF (wn rfl) rfl rfl (R.assign (hF.ev rfl)) fun a hF => ?_
      refine s0 ?_
      refine then_n (hK5 _ _ ?_)
      refine wp_ret (then_r (hR _ _ _ _ _ hF (run_results Try.results7 (.t hF rfl (.nil))) ?_))
      exact ⟨_, [], rfl, ⟨rfl, rfl⟩, hS.none⟩
    ·
      obtain ⟨kn, rfl⟩ : ∃ kn : Nat, k = kn := ⟨k.toNat, by omega⟩
      have hkn := play_asks hp.ok
      obtain ⟨vx, hvx, hcx⟩ := wx_ex
      have hb3 := hp.b3
      refine wp_skip ?_
      refine then_n (hK3 _ _ ?_)
      refine wp_seq_k fun K6 hK6 => ?_
      refine wp_region_lit ?_
      refine so (wn rfl) (O.buildSlice (l := []) rfl rfl hF Try.underlying35 inf48 rfl rfl (hF.evp rfl) (by decide) rfl hS fun b37 a w hF hS => ?_)
      refine sv' hF (wn rfl) rfl rfl (R.fieldAddr (k := 49) Try.underlying37 rfl nz35 (hF.ev rfl) rfl) fun a hF => ?_
      refine sv' hF (wn rfl) rfl rfl (R.load one35 (hF.ev rfl) hS (.t (.t .h)) (rfl)) fun a hF => ?_
      refine so (wn rfl) (O.appendO rfl rfl hF Try.underlying35 inf48 rfl rfl (by decide) (hF.ev rfl) (hF.ev rfl) hS (own_nil48 b37) (fun _ => .h) (hp.reps.old hS) (reps_length _) (one_reps _) (by unfold maxLen; omega) (by omega) fun A40 c40 s40 a w hO40 hF hS => ?_)
      rw [Nat.zero_add] at hF hO40; rw [List.flatMap_nil, List.nil_append] at hO40
      refine sv' hF (wn rfl) rfl rfl (R.assign (hF.ev rfl)) fun a hF => ?_
      refine s0 ?_
      refine then_n (hK6 _ _ ?_)
      refine wp_seq_k fun K7 hK7 => ?_
      refine wp_block ?_
      refine wp_loop_N (fun g a w => ∃ (l : List (Nat × Int)) (A1 : Option Addr) (e1 : Nat) (z : Seg), kn + 1 - l.length = g ∧ Fr 85 [(1, .int .i64 ((kn : Nat) : Int)), (2, .int .i64 e), (3, .pointer (some ⟨b3, 0, none⟩)), (9, .slice A16 (playN F.cl F.code F.rep).asks.length c16), (10, .slice A1 l.length e1)] a ∧ St w0 [] [z, s16, [(b3, Cel (plays F) 37)]] w ∧ (OwnS z A1 l.length e1 (l.flatMap repc) 48 5) ∧ (∀ i, l.getD i (0, 0) = F.reps.getD i (0, 0)) ∧ (∀ r ∈ l, repOk r) ∧ (l.length ≤ 3518437208781)) (kn + 1 - F.reps.length) ?_ ?_
      · exact ⟨F.reps, A40, c40, s40, rfl, hF.sub ⟨rfl, rfl, rfl, rfl, rfl, trivial⟩, hS.sel [0, 1, 2] rfl rfl, hO40, fun _ => rfl, fun r hr => ⟨hp.ok.reps r hr, hp.errs r hr⟩, by omega⟩
      · rintro KL1 g a w ⟨l, A1, e1, z, hg1, hF, hS, hO, hgd, hrk, hll⟩ hKL1
        refine wp_seq_k fun K8 hK8 => ?_
        refine wp_seq_k fun K9 hK9 => ?_
        refine wp_region_lit ?_
        refine sv' hF (wn rfl) rfl rfl (R.move (hF.ev rfl)) fun a hF => ?_
        refine sv' hF (wn rfl) rfl rfl (R.len Try.underlying35 (hF.ev rfl)) fun a hF => ?_
        refine sv' hF (wn rfl) rfl rfl (R.move (hF.ev rfl)) fun a hF => ?_
        refine sv' hF (wn rfl) rfl rfl (R.leq (hF.ev rfl) (hF.ev rfl)) fun a hF => ?_
        refine s0 ?_
        refine then_n (hK9 _ _ ?_)
        refine cD hF rfl (fun c2 => ?_) (fun c2 => ?_)
        ·
          refine wp_skip ?_
          refine then_n (hK8 _ _ ?_)
          refine wp_block ?_
          refine wp_region_lit ?_
          refine sv' hF (wn rfl) rfl rfl (R.move (hF.ev rfl)) fun a hF => ?_
          refine sv' hF (wn rfl) rfl rfl (R.buildStr (l := [_, _, _, _, _]) Try.underlying48 ze48 pl48 (hF.evp rfl) rfl) fun a hF => ?_
          refine so (wn rfl) (O.buildSlice (l := [_, _, _, _, _]) rfl rfl hF Try.underlying35 inf48 rfl rfl (hF.evp rfl) (by decide) rfl hS fun b47 a w hF hS => ?_)
          refine so (wn rfl) (O.append rfl rfl hF Try.underlying35 inf48 rfl rfl (by decide) (hF.ev rfl) (hF.ev rfl) hS hO (fun _ => (.t .h)) (Rd.own0 hS .h) (rfl) (by simp [Value.oneCell']) (by unfold maxLen; omega) (by omega) fun A48 c48 s48 a w hO48 hF hS => ?_)
          refine sv' hF (wn rfl) rfl rfl (R.assign (hF.ev rfl)) fun a hF => ?_
          refine s0 ?_
          refine blk_n ?_
          refine then_n (hKL1 (kn + 1 - (l.length + 1)) _ _ ?_ ?_)
          · omega
          · exact ⟨l ++ [(0, 0)], A48, c48, s48, (by rw [List.length_append]; rfl), hF.sub ⟨rfl, rfl, rfl, rfl, (by rw [List.length_append]; rfl), trivial⟩, hS.sel [1, 2, 3] rfl rfl, own_rep0 hO48, fun i => (getD_snoc0 l i).trans (hgd i), reps_ok0 hrk, by rw [List.length_append, List.length_singleton]; omega⟩
        ·
          obtain ⟨gb, rest, rfl, rfl, hnc, hcl, hcm⟩ := own_open3 hO (by omega)
          refine wp_exit (then_x (then_x (blk_hit ?_)))
          refine then_n (hK7 _ _ ?_)
          refine wp_seq_k fun K10 hK10 => ?_
          refine wp_region_lit ?_
          refine sv' hF (wn rfl) rfl rfl (R.move (hF.ev rfl)) fun a hF => ?_
          refine sv' hF (wn rfl) rfl rfl (R.move (hF.ev rfl)) fun a hF => ?_
          refine sv' hF (wn rfl) rfl rfl (R.buildArr (l := [_, _, _, _]) Try.underlying31 ze31 sz29 (hF.evp rfl) rfl) fun a hF => ?_
          refine sv' hF (wn rfl) rfl rfl (R.move (hF.ev rfl)) fun a hF => ?_
          refine sv' hF (wn rfl) rfl rfl (R.as (u := .agg (repc (vx, e)).toArray) (R.buildStr (l := [_, _, _, _, _]) Try.underlying48 ze48 pl48 (hF.evp rfl) rfl) (by unfold repc; rw [← hcx]; rfl)) fun a hF => ?_
          refine sv' hF (wn rfl) rfl rfl (R.indexS Try.underlying35 sz48 (hF.ev rfl) (hF.ev rfl) (by omega) (by omega)) fun a hF => ?_
          refine so (wn rfl) (O.storeA sz48 (hF.ev rfl) (hF.ev rfl) rfl rfl (one_repc _) hS .h (flat_splR len_repc (k := kn) (v := (vx, e)) (by omega) (by omega)) (by rw [hcl]; show _ + 5 ≤ _; omega) fun w hS => ?_)
          refine s0 ?_
          refine then_n (hK10 _ _ ?_)
          refine wp_seq_k fun K11 hK11 => ?_
          obtain ⟨l2, hl2⟩ : ∃ l2, l2 = l.set kn (vx, e) := ⟨_, rfl⟩; rw [show l.length = l2.length by rw [hl2, List.length_set]] at hF; rw [← hl2] at hS; have h16 := hO16.2.1; have h16c := hO16.cap
          refine wp_region_lit ?_
          refine sv' hF (wn rfl) rfl rfl (R.fieldAddr (k := 0) Try.underlying37 rfl nz23 (hF.ev rfl) rfl) fun a hF => ?_
          refine sv' hF (wn rfl) rfl rfl (R.load one23 (hF.ev rfl) hS (.t (.t .h)) (rfl)) fun a hF => ?_
          refine sv' hF (wn rfl) rfl rfl (R.fieldAddr (k := 1) Try.underlying37 rfl nz34 (hF.ev rfl) rfl) fun a hF => ?_
          refine sv' hF (wn rfl) rfl rfl (R.loadA (cs := [_, _, _, _, _, _, _, _, _, _, _, _, _, _, _, _, _, _, _, _, _, _, _, _, _, _, _, _, _, _, _, _, _, _, _, _, _, _, _, _, _, _, _, _, _, _, _, _]) agg34 (hF.ev rfl) hS (.t (.t .h)) sz34 rfl (getAt rfl)) fun a hF => ?_
          refine sv' hF (wn rfl) rfl rfl (R.move (hF.ev rfl)) fun a hF => ?_
          refine sv' hF (wn rfl) rfl rfl (R.buildStr (l := plays (hostF F (some ⟨gb, 0, none⟩) e1 l2)) Try.underlying37 ze37 pl37 (hF.evp rfl) (by kernel_rfl)) fun a hF => ?_
          refine so (wn rfl) (O.call rfl rfl hF ent15 (hF.evs rfl) hS (playH F (some ⟨gb, 0, none⟩) e1 kn vx hvx e l l2 w (hp.old hS) hl2 (by rw [hl2, List.length_set]; omega) hrk (by unfold i64OK; omega) (rd_app (Rd.own0 hS .h)) (by omega) (by omega) hgd (by omega)) fun v s62 a w hR hF hS => ?_)
          obtain ⟨A62, c62, rfl, hO62⟩ := hR
          refine sv' hF (wn rfl) rfl rfl (R.move (hF.ev rfl)) fun a hF => ?_
          refine sv' hF (wn rfl) rfl rfl (R.extract (hF.ev rfl) rfl) fun a hF => ?_
          refine sv' hF (wn rfl) rfl rfl (R.extract (hF.ev rfl) rfl) fun a hF => ?_
          refine sv' hF (wn rfl) rfl rfl (R.extract (hF.ev rfl) rfl) fun a hF => ?_
          refine so (wn rfl) (O.alloc rfl rfl hF ze39 rfl hS fun b11 a w hF hS => ?_)
          refine so (wn rfl) (O.storeW sz39 (hF.ev rfl) (hF.ev rfl) (rfl) rfl (by simp [Value.oneCell']) hS .h (rfl) fun w hS => ?_)
          refine sv' hF (wn rfl) rfl rfl (R.assign (hF.ev rfl)) fun a hF => ?_
          refine sv' hF (wn rfl) rfl rfl (R.assign (hF.ev rfl)) fun a hF => ?_
          refine s0 ?_
          refine then_n (hK11 _ _ ?_)
          refine wp_seq_k fun K12 hK12 => ?_
          refine wp_region_lit ?_
          refine sv' hF (wn rfl) rfl rfl (R.loadW agg39 (hF.ev rfl) hS .h sz39 (rfl)) fun a hF => ?_
          refine sv' hF (wn rfl) rfl rfl (R.buildStr (l := [_, _, _, _, _]) Try.underlying39 ze39 pl39 (hF.evp rfl) rfl) fun a hF => ?_
          refine sv' hF (wn rfl) rfl rfl (R.as (u := .bool true) (R.eqlAgg (hF.ev rfl) (hF.ev rfl) (ran_eq 0 0) eg39) (rfl)) fun a hF => ?_
          refine sv' hF (wn rfl) rfl rfl (R.move (hF.ev rfl)) fun a hF => ?_
          refine sv' hF (wy hF rfl rfl rfl) rfl rfl (R.move (hF.ev rfl)) fun a hF => ?_
          refine sv' hF (wy hF rfl rfl rfl) rfl rfl (R.move (hF.ev rfl)) fun a hF => ?_
          refine sv' hF (wy hF rfl rfl rfl) rfl rfl (R.as (u := .bool true) (R.eql (p := e) (q := e) (hF.ev rfl) (hF.ev rfl)) (congrArg Value.bool (decide_eq_true (rfl)))) fun a hF => ?_
          refine sv' hF (wn rfl) rfl rfl (R.pickT (hF.ev rfl) (hF.ev rfl)) fun a hF => ?_
          refine sv' hF (wn rfl) rfl rfl (R.move (hF.ev rfl)) fun a hF => ?_
          refine sv' hF (wy hF rfl rfl rfl) rfl rfl (R.move (hF.ev rfl)) fun a hF => ?_
          refine sv' hF (wy hF rfl rfl rfl) rfl rfl (R.move (hF.ev rfl)) fun a hF => ?_
          refine sv' hF (wy hF rfl rfl rfl) rfl rfl (R.move (hF.ev rfl)) fun a hF => ?_
          refine sv' hF (wy hF rfl rfl rfl) rfl rfl (R.addI (hF.ev rfl) (hF.ev rfl) (by omega)) fun a hF => ?_
          refine sv' hF (wy hF rfl rfl rfl) rfl rfl (R.as (u := .slice A16 ((playN F.cl F.code F.rep).asks.take (kn + 1)).length c16) (R.sliceHi Try.underlying40 (hF.ev rfl) (hF.ev rfl) (by omega) (by omega) _ sz72) (congrArg (fun z => Value.slice A16 z c16) (by rw [List.length_take]; omega))) fun a hF => ?_
          refine so (wy hF rfl rfl rfl) (O.call rfl rfl hF ent16 (hF.evs rfl) hS (sameAsks_calls A62 A16 c62 c16 ((playN F.cl F.code F.rep).asks.take (kn + 1)) w (hO62.rd hS (.t .h)) (by (have h9 := (hO16.rd hS (.t (.t (.t .h)))).sub ((kn + 1) * 30); rwa [flat_take len_askc] at h9)) (Nat.le_trans hO62.2.1 hO62.cap)) fun v s80 a w hR hF hS => ?_)
          obtain ⟨rfl, rfl⟩ := hR
          refine sv' hF (wn rfl) rfl rfl (R.pickT (hF.ev rfl) (hF.ev rfl)) fun a hF => ?_
          refine sv' hF (wn rfl) rfl rfl (R.move (hF.ev rfl)) fun a hF => ?_
          refine so (wy hF rfl rfl rfl) (O.call rfl rfl hF ent11 (hF.evs rfl) hS (alive_calls _) fun v s83 a w hR hF hS => ?_)
          obtain ⟨rfl, rfl⟩ := hR
          refine sv' hF (wn rfl) rfl rfl (R.pickT (hF.ev rfl) (hF.ev rfl)) fun a hF => ?_
          refine sv' hF (wn rfl) rfl rfl (R.assign (hF.ev rfl)) fun a hF => ?_
          refine s0 ?_
          refine then_n (hK12 _ _ ?_)
          refine wp_ret (hR _ _ _ _ _ hF (run_results Try.results7 (.t hF rfl (.nil))) ?_)
          exact ⟨_, [], rfl, ⟨rfl, rfl⟩, hS.none⟩
  refine wp_region_lit ?_
  refine sv' hF (wn rfl) rfl rfl (R.move (hF.ev rfl)) fun a hF => ?_
  refine sv' hF (wn rfl) rfl rfl (R.lss (hF.ev rfl) (hF.ev rfl)) fun a hF => ?_
  refine sv' hF (wn rfl) rfl rfl (R.move (hF.ev rfl)) fun a hF => ?_
  refine hF.splitD (t := 22) rfl (fun h22 hF => ?_) (fun h22 hF => ?_)
  ·
    refine sk hF (ws hF rfl rfl rfl rfl) rfl rfl fun a hF => ?_
    refine sk hF (ws hF rfl rfl rfl rfl) rfl rfl fun a hF => ?_
    refine sk hF (ws hF rfl rfl rfl rfl) rfl rfl fun a hF => ?_
    refine sk hF (ws hF rfl rfl rfl rfl) rfl rfl fun a hF => ?_
    refine sv' hF (wn rfl) rfl rfl (R.pickT (hF.ev rfl) (hF.ev rfl)) fun a hF => ?_
    refine sv' hF (wn rfl) rfl rfl (R.move (hF.ev rfl)) fun a hF => ?_
    refine sk hF (ws hF rfl rfl rfl rfl) rfl rfl fun a hF => ?_
    refine sk hF (ws hF rfl rfl rfl rfl) rfl rfl fun a hF => ?_
    refine sv' hF (wn rfl) rfl rfl (R.pickT (hF.ev rfl) (hF.ev rfl)) fun a hF => ?_
    refine sv' hF (wn rfl) rfl rfl (R.move (hF.ev rfl)) fun a hF => ?_
    refine sk hF (ws hF rfl rfl rfl rfl) rfl rfl fun a hF => ?_
    refine sk hF (ws hF rfl rfl rfl rfl) rfl rfl fun a hF => ?_
    refine sv' hF (wn rfl) rfl rfl (R.pickT (hF.ev rfl) (hF.ev rfl)) fun a hF => ?_
    refine s0 ?_
    exact then_n (hK4' _ _ ⟨hF.sub ⟨rfl, rfl, rfl, rfl, (congrArg (fun z => some (Value.bool z)) (by first | exact (decide_eq_true (by omega)).symm | exact (decide_eq_false (by omega)).symm | exact decide_eq_decide.2 (by omega))), trivial⟩, hS.sel [1, 2] rfl rfl⟩)
  ·
    refine sv' hF (wy hF rfl rfl rfl) rfl rfl (R.move (hF.ev rfl)) fun a hF => ?_
    refine sv' hF (wy hF rfl rfl rfl) rfl rfl (R.move (hF.ev rfl)) fun a hF => ?_
    refine sv' hF (wy hF rfl rfl rfl) rfl rfl (R.len Try.underlying40 (hF.ev rfl)) fun a hF => ?_
    refine sv' hF (wy hF rfl rfl rfl) rfl rfl (R.geq (hF.ev rfl) (hF.ev rfl)) fun a hF => ?_
    refine sv' hF (wn rfl) rfl rfl (R.pickF (hF.ev rfl) (hF.ev rfl)) fun a hF => ?_
    refine sv' hF (wn rfl) rfl rfl (R.move (hF.ev rfl)) fun a hF => ?_
    refine hF.splitD (t := 28) rfl (fun h28 hF => ?_) (fun h28 hF => ?_)
    ·
      refine sk hF (ws hF rfl rfl rfl rfl) rfl rfl fun a hF => ?_
      refine sk hF (ws hF rfl rfl rfl rfl) rfl rfl fun a hF => ?_
      refine sv' hF (wn rfl) rfl rfl (R.pickT (hF.ev rfl) (hF.ev rfl)) fun a hF => ?_
      refine sv' hF (wn rfl) rfl rfl (R.move (hF.ev rfl)) fun a hF => ?_
      refine sk hF (ws hF rfl rfl rfl rfl) rfl rfl fun a hF => ?_
      refine sk hF (ws hF rfl rfl rfl rfl) rfl rfl fun a hF => ?_
      refine sv' hF (wn rfl) rfl rfl (R.pickT (hF.ev rfl) (hF.ev rfl)) fun a hF => ?_
      refine s0 ?_
      exact then_n (hK4' _ _ ⟨hF.sub ⟨rfl, rfl, rfl, rfl, (congrArg (fun z => some (Value.bool z)) (by first | exact (decide_eq_true (by omega)).symm | exact (decide_eq_false (by omega)).symm | exact decide_eq_decide.2 (by omega))), trivial⟩, hS.sel [1, 2] rfl rfl⟩)
    ·
      refine sv' hF (wy hF rfl rfl rfl) rfl rfl (R.move (hF.ev rfl)) fun a hF => ?_
      refine sv' hF (wy hF rfl rfl rfl) rfl rfl (R.lss (hF.ev rfl) (hF.ev rfl)) fun a hF => ?_
      refine sv' hF (wn rfl) rfl rfl (R.pickF (hF.ev rfl) (hF.ev rfl)) fun a hF => ?_
      refine sv' hF (wn rfl) rfl rfl (R.move (hF.ev rfl)) fun a hF => ?_
      refine hF.splitD (t := 32) rfl (fun h32 hF => ?_) (fun h32 hF => ?_)
      ·
        refine sk hF (ws hF rfl rfl rfl rfl) rfl rfl fun a hF => ?_
        refine sk hF (ws hF rfl rfl rfl rfl) rfl rfl fun a hF => ?_
        refine sv' hF (wn rfl) rfl rfl (R.pickT (hF.ev rfl) (hF.ev rfl)) fun a hF => ?_
        refine s0 ?_
        exact then_n (hK4' _ _ ⟨hF.sub ⟨rfl, rfl, rfl, rfl, (congrArg (fun z => some (Value.bool z)) (by first | exact (decide_eq_true (by omega)).symm | exact (decide_eq_false (by omega)).symm | exact decide_eq_decide.2 (by omega))), trivial⟩, hS.sel [1, 2] rfl rfl⟩)
      ·
        refine sv' hF (wy hF rfl rfl rfl) rfl rfl (R.move (hF.ev rfl)) fun a hF => ?_
        refine sv' hF (wy hF rfl rfl rfl) rfl rfl (R.gtr (hF.ev rfl) (hF.ev rfl)) fun a hF => ?_
        refine sv' hF (wn rfl) rfl rfl (R.pickF (hF.ev rfl) (hF.ev rfl)) fun a hF => ?_
        refine s0 ?_
        exact then_n (hK4' _ _ ⟨hF.sub ⟨rfl, rfl, rfl, rfl, (congrArg (fun z => some (Value.bool z)) (by first | exact (decide_eq_true (by omega)).symm | exact (decide_eq_false (by omega)).symm | exact decide_eq_decide.2 (by omega))), trivial⟩, hS.sel [1, 2] rfl rfl⟩)

end Go.Proofs.Ytlapmbkfmbkdoaa
