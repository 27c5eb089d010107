/- The laws of the machine in plain terms: what runs with other gas, with other replies, and four small programs. No Go in sight. -/
import Derived.Test.YtlapmbkfmbkdoaaFa
namespace Go.Proofs.Ytlapmbkfmbkdoaa
open Go Go.Fw Go.RowKit
def setL (l : Nat) : Out → Out
  | .more s _ p a => .more s l p a
  | .fin v _ a => .fin v l a
  | .err e a => .err e a
theorem told_left {cl : Cl} {g : Int} {c b l l2 : Nat} (h : c ≠ 23) (h1 : 16 ≤ c) (h2 : c ≤ 23) : toldN { cl with gas := g } c b l2 = toldN cl c b l := by
  unfold toldN
  repeat' split
  all_goals first | rfl | omega
theorem do_left {cl : Cl} {g : Int} {code : List Nat} {rep : Nat → Nat × Int} {c b p l l2 : Nat} {st : List Nat} {u : Nat → Nat} {asks : List Fw.Ask} (h : c ≠ 23) :
    doN { cl with gas := g } code rep c b p l2 st u asks = setL l2 (doN cl code rep c b p l st u asks) := by
  unfold doN
  by_cases h0 : c = 0
  · simp only [if_pos h0]; rfl
  by_cases h1 : c = 1
  · simp only [if_neg h0, if_pos h1]; rfl
  by_cases h2 : c = 2
  · simp only [if_neg h0, if_neg h1, if_pos h2]; rfl
  by_cases h3 : c = 3
  · simp only [if_neg h0, if_neg h1, if_neg h2, if_pos h3]; rfl
  by_cases h4 : c = 4
  · simp only [if_neg h0, if_neg h1, if_neg h2, if_neg h3, if_pos h4]; rfl
  by_cases h5 : c = 5
  · simp only [if_neg h0, if_neg h1, if_neg h2, if_neg h3, if_neg h4, if_pos h5]; rfl
  by_cases h6 : c ≤ 12
  · simp only [if_neg h0, if_neg h1, if_neg h2, if_neg h3, if_neg h4, if_neg h5, if_pos h6]
    cases arithN c (u 0) (u 1) <;> rfl
  by_cases h7 : c = 13
  · simp only [if_neg h0, if_neg h1, if_neg h2, if_neg h3, if_neg h4, if_neg h5, if_neg h6, if_pos h7]; rfl
  by_cases h8 : c = 14
  · simp only [if_neg h0, if_neg h1, if_neg h2, if_neg h3, if_neg h4, if_neg h5, if_neg h6, if_neg h7, if_pos h8]; rfl
  by_cases h9 : c = 15
  · simp only [if_neg h0, if_neg h1, if_neg h2, if_neg h3, if_neg h4, if_neg h5, if_neg h6, if_neg h7, if_neg h8, if_pos h9]; rfl
  by_cases h10 : c ≤ 23
  · simp only [if_neg h0, if_neg h1, if_neg h2, if_neg h3, if_neg h4, if_neg h5, if_neg h6, if_neg h7, if_neg h8, if_neg h9, if_pos h10]
    rw [told_left (l := l) h (by omega) h10]; rfl
  · simp only [if_neg h0, if_neg h1, if_neg h2, if_neg h3, if_neg h4, if_neg h5, if_neg h6, if_neg h7, if_neg h8, if_neg h9, if_neg h10]
    cases askN c u with
    | none => rfl
    | some q =>
      show (if (rep asks.length).2 ≠ 0 then _ else _) = setL l2 (if (rep asks.length).2 ≠ 0 then _ else _)
      split <;> rfl
theorem do_err_ne {cl : Cl} {code : List Nat} {rep : Nat → Nat × Int} {c b p l : Nat} {st : List Nat} {u : Nat → Nat} {asks : List Fw.Ask} {e : Int} {a : List Fw.Ask} (h : doN cl code rep c b p l st u asks = .err e a) : e ≠ 0 := by
  unfold doN at h
  by_cases h0 : c = 0
  · rw [if_pos h0] at h
    cases h; decide
  by_cases h1 : c = 1
  · rw [if_neg h0, if_pos h1] at h
    cases h
  by_cases h2 : c = 2
  · rw [if_neg h0, if_neg h1, if_pos h2] at h
    cases h
  by_cases h3 : c = 3
  · rw [if_neg h0, if_neg h1, if_neg h2, if_pos h3] at h
    cases h
  by_cases h4 : c = 4
  · rw [if_neg h0, if_neg h1, if_neg h2, if_neg h3, if_pos h4] at h
    cases h
  by_cases h5 : c = 5
  · rw [if_neg h0, if_neg h1, if_neg h2, if_neg h3, if_neg h4, if_pos h5] at h
    cases h
  by_cases h6 : c ≤ 12
  · rw [if_neg h0, if_neg h1, if_neg h2, if_neg h3, if_neg h4, if_neg h5, if_pos h6] at h
    cases ha : arithN c (u 0) (u 1) with
    | none => rw [ha] at h; cases h; decide
    | some r => rw [ha] at h; cases h
  by_cases h7 : c = 13
  · rw [if_neg h0, if_neg h1, if_neg h2, if_neg h3, if_neg h4, if_neg h5, if_neg h6, if_pos h7] at h
    cases h
  by_cases h8 : c = 14
  · rw [if_neg h0, if_neg h1, if_neg h2, if_neg h3, if_neg h4, if_neg h5, if_neg h6, if_neg h7, if_pos h8] at h
    cases h
  by_cases h9 : c = 15
  · rw [if_neg h0, if_neg h1, if_neg h2, if_neg h3, if_neg h4, if_neg h5, if_neg h6, if_neg h7, if_neg h8, if_pos h9] at h
    cases h
  by_cases h10 : c ≤ 23
  · rw [if_neg h0, if_neg h1, if_neg h2, if_neg h3, if_neg h4, if_neg h5, if_neg h6, if_neg h7, if_neg h8, if_neg h9, if_pos h10] at h
    cases h
  rw [if_neg h0, if_neg h1, if_neg h2, if_neg h3, if_neg h4, if_neg h5, if_neg h6, if_neg h7, if_neg h8, if_neg h9, if_neg h10] at h
  cases ha : askN c u with
  | none => rw [ha] at h; cases h; decide
  | some q =>
    rw [ha] at h
    by_cases h11 : (rep asks.length).2 ≠ 0
    · replace h : (if (rep asks.length).2 ≠ 0 then Out.err (rep asks.length).2 (asks ++ [q]) else Out.more (if c = 24 ∨ c = 26 then st ++ [(rep asks.length).1] else st) l (p + sizeN code p) (asks ++ [q])) = _ := h
      rw [if_pos h11] at h; cases h; exact h11
    · replace h : (if (rep asks.length).2 ≠ 0 then Out.err (rep asks.length).2 (asks ++ [q]) else Out.more (if c = 24 ∨ c = 26 then st ++ [(rep asks.length).1] else st) l (p + sizeN code p) (asks ++ [q])) = _ := h
      rw [if_neg h11] at h; cases h
theorem stp_err_ne {cl : Cl} {code : List Nat} {rep : Nat → Nat × Int} {l p : Nat} {st : List Nat} {asks : List Fw.Ask} {e : Int} {a : List Fw.Ask} (h : stp cl code rep st l p asks = .err e a) : e ≠ 0 := by
  unfold stp at h
  repeat' split at h
  all_goals first | exact do_err_ne h | (cases h; decide)
def Unlit (code : List Nat) : Prop := ∀ p, validP code p → p < code.length → cAt code p ≠ 23
theorem run_up {F : Fx} (hK : F.Ok) (hno : Unlit F.code) (g : Int) : ∀ (f : Nat) (stk : List Nat) (left p : Nat) (asks : List Fw.Ask) (v lf : Nat) (a : List Fw.Ask), validP F.code p → stk.length ≤ 64 → AllW stk → left ≤ 10000 →
    Fw.runN F.cl F.code F.rep f stk left p asks = ⟨v, lf, 0, a⟩ → lf < left ∧ ∀ left2 f2, left2 < f2 →
      (left ≤ left2 + lf → Fw.runN { F.cl with gas := g } F.code F.rep f2 stk left2 p asks = ⟨v, left2 + lf - left, 0, a⟩) ∧ (left2 + lf < left → (Fw.runN { F.cl with gas := g } F.code F.rep f2 stk left2 p asks).e = 102)
  | 0, _, _, _, _, _, _, _, _, _, _, _, h => by simp [Fw.runN] at h
  | f + 1, stk, left, p, asks, v, lf, a, hv, hl, hW, hq, h => by
    by_cases h1 : F.code.length ≤ p
    · rw [runN_err (stp_end h1)] at h; simp at h
    have hp : p < F.code.length := by omega
    have h28 := size_28 (valid_size hp hv)
    have hpr := priceN_pos h28
    by_cases h2 : left < priceN (cAt F.code p)
    · rw [runN_err (stp_gas hp h2)] at h; simp at h
    by_cases h3 : stk.length < deepN F.code p ∨ 64 < stk.length - takesN (cAt F.code p) + laysN (cAt F.code p)
    · rw [runN_err (stp_stack hp h2 h3)] at h; simp at h
    have hst := stp_do (cl := F.cl) (rep := F.rep) (asks := asks) hp h2 h3
    have hst2 : ∀ left2, ¬ left2 < priceN (cAt F.code p) → stp { F.cl with gas := g } F.code F.rep stk left2 p asks = setL (left2 - priceN (cAt F.code p)) (stp F.cl F.code F.rep stk left p asks) := by
      intro left2 h5
      rw [stp_do hp h5 h3, hst]
      exact do_left (hno p hv hp)
    cases hd : stp F.cl F.code F.rep stk left p asks with
    | err e a' =>
      rw [runN_err hd] at h
      have := stp_err_ne hd
      simp only [Ended.mk.injEq] at h
      exact absurd h.2.2.1 this
    | fin v' l' a' =>
      rw [runN_fin hd] at h
      simp only [Ended.mk.injEq] at h
      obtain ⟨rfl, rfl, _, rfl⟩ := h
      have hl' : l' = left - priceN (cAt F.code p) := by rw [hst] at hd; exact (do_fin hd).1
      refine ⟨by omega, fun left2 f2 hf => ?_⟩
      cases f2 with
      | zero => omega
      | succ f2 =>
        by_cases h5 : left2 < priceN (cAt F.code p)
        · refine ⟨fun h6 => by omega, fun _ => ?_⟩
          rw [runN_err (stp_gas hp h5)]
        · refine ⟨fun h6 => ?_, fun h6 => by omega⟩
          have := hst2 left2 h5
          rw [hd] at this
          rw [runN_fin this]
          rw [show left2 + l' - left = left2 - priceN (cAt F.code p) by omega]
    | more stk' left' p' asks' =>
      rw [runN_more hd] at h
      obtain ⟨k1, k2, k3, k4, k5⟩ := stp_more hK hv hl hW hq hd
      have hl' : left' = left - priceN (cAt F.code p) := by
        have := hst2 left h2
        rw [hd] at this
        rw [hst] at hd
        exact (do_more hK h28 (fun x hx => hW x (List.take_subset _ _ hx)) (fun i => allW_getD hW _) (by omega) (fun h2 => by
          have hs := valid_size hp hv
          revert hs; unfold sizeN
          repeat' split
          all_goals omega) hd).1
      obtain ⟨g1, g2⟩ := run_up hK hno g f stk' left' p' asks' v lf a k1 k2 k3 (by omega) h
      refine ⟨by omega, fun left2 f2 hf => ?_⟩
      cases f2 with
      | zero => omega
      | succ f2 =>
        by_cases h5 : left2 < priceN (cAt F.code p)
        · refine ⟨fun h6 => by omega, fun _ => ?_⟩
          rw [runN_err (stp_gas hp h5)]
        · have := hst2 left2 h5
          rw [hd] at this
          rw [runN_more this]
          obtain ⟨g3, g4⟩ := g2 (left2 - priceN (cAt F.code p)) f2 (by omega)
          refine ⟨fun h6 => ?_, fun h6 => g4 (by omega)⟩
          rw [g3 (by omega), show left2 - priceN (cAt F.code p) + lf - left' = left2 + lf - left by omega]
theorem run_lf {F : Fx} (hK : F.Ok) : ∀ (f : Nat) (stk : List Nat) (left p : Nat) (asks : List Fw.Ask) (v lf : Nat) (a : List Fw.Ask), validP F.code p → stk.length ≤ 64 → AllW stk → left ≤ 10000 →
    Fw.runN F.cl F.code F.rep f stk left p asks = ⟨v, lf, 0, a⟩ → lf < left
  | 0, _, _, _, _, _, _, _, _, _, _, _, h => by simp [Fw.runN] at h
  | f + 1, stk, left, p, asks, v, lf, a, hv, hl, hW, hq, h => by
    by_cases h1 : F.code.length ≤ p
    · rw [runN_err (stp_end h1)] at h; simp at h
    have hp : p < F.code.length := by omega
    have hpr := priceN_pos (size_28 (valid_size hp hv))
    by_cases h2 : left < priceN (cAt F.code p)
    · rw [runN_err (stp_gas hp h2)] at h; simp at h
    by_cases h3 : stk.length < deepN F.code p ∨ 64 < stk.length - takesN (cAt F.code p) + laysN (cAt F.code p)
    · rw [runN_err (stp_stack hp h2 h3)] at h; simp at h
    have hst := stp_do (cl := F.cl) (rep := F.rep) (asks := asks) hp h2 h3
    cases hd : stp F.cl F.code F.rep stk left p asks with
    | err e a' =>
      rw [runN_err hd] at h
      have := stp_err_ne hd
      simp only [Ended.mk.injEq] at h
      exact absurd h.2.2.1 this
    | fin v' l' a' =>
      rw [runN_fin hd] at h
      simp only [Ended.mk.injEq] at h
      obtain ⟨rfl, rfl, _, rfl⟩ := h
      have hl' : l' = left - priceN (cAt F.code p) := by rw [hst] at hd; exact (do_fin hd).1
      omega
    | more stk' left' p' asks' =>
      rw [runN_more hd] at h
      obtain ⟨k1, k2, k3, k4, k5⟩ := stp_more hK hv hl hW hq hd
      have := run_lf hK f stk' left' p' asks' v lf a k1 k2 k3 (by omega) h
      omega
theorem play_run {cl : Cl} {code : List Nat} {rep : Nat → Nat × Int} (h1 : chkN code = true) (h2 : callOk cl = true) :
    playN cl code rep = let r := Fw.runN cl code rep (cl.gas.toNat + 1) [] cl.gas.toNat 0 []; if r.e = 0 then ⟨r.v, cl.gas - r.left, 0, r.asks⟩ else ⟨0, 0, r.e, r.asks⟩ := by
  unfold playN; simp [h1, h2]
theorem play_ok {cl : Cl} {code : List Nat} {rep : Nat → Nat × Int} (h : (playN cl code rep).e ≠ 100) (h' : (playN cl code rep).e ≠ 101) : chkN code = true ∧ callOk cl = true := by
  cases h1 : chkN code
  · simp [playN, h1] at h
  cases h2 : callOk cl
  · simp [playN, h1, h2] at h'
  exact ⟨rfl, rfl⟩
/-- a run that went well, metered -/
theorem meter {F : Fx} (h0 : Fx.Ok0 F) (he : (playN F.cl F.code F.rep).e = 0) : 1 ≤ (playN F.cl F.code F.rep).gas ∧ (playN F.cl F.code F.rep).gas ≤ F.cl.gas ∧ (playN F.cl F.code F.rep).gas ≤ 10000 ∧ (Unlit F.code →
    (∀ g : Int, (playN F.cl F.code F.rep).gas ≤ g → g ≤ 10000 → playN { F.cl with gas := g } F.code F.rep = playN F.cl F.code F.rep) ∧
    (∀ g : Int, g = (playN F.cl F.code F.rep).gas - 1 → g = 0 → playN { F.cl with gas := g } F.code F.rep = ⟨0, 0, 101, []⟩) ∧
    (∀ g : Int, g = (playN F.cl F.code F.rep).gas - 1 → g ≠ 0 → ∃ a, playN { F.cl with gas := g } F.code F.rep = ⟨0, 0, 102, a⟩)) := by
  obtain ⟨h1, h2⟩ := play_ok (cl := F.cl) (code := F.code) (rep := F.rep) (by omega) (by omega)
  have hK := ok_of h0 h1 h2
  obtain ⟨c1, c2, c3, c4, c5, c6, c7⟩ := callOk_iff.1 h2
  have hp := play_run (rep := F.rep) h1 h2
  generalize hr : Fw.runN F.cl F.code F.rep (F.cl.gas.toNat + 1) [] F.cl.gas.toNat 0 [] = r at hp
  obtain ⟨v, lf, e, a⟩ := r
  dsimp only at hp
  have he0 : e = 0 := by
    rw [hp] at he
    by_cases h : e = 0
    · exact h
    · rw [if_neg h] at he; exact absurd he h
  subst he0
  rw [if_pos rfl] at hp
  rw [hp]
  dsimp only
  have hno : ∀ (hno : Unlit F.code) (g : Int), _ := fun hno g => run_up hK hno g (F.cl.gas.toNat + 1) [] F.cl.gas.toNat 0 [] v lf a (valid_0 h1) (Nat.zero_le _) (by intro x hx; simp at hx) (by omega) hr
  have hlf : lf < F.cl.gas.toNat := by
    have := run_lf hK (F.cl.gas.toNat + 1) [] F.cl.gas.toNat 0 [] v lf a (valid_0 h1) (Nat.zero_le _) (by intro x hx; simp at hx) (by omega) hr
    exact this
  refine ⟨by omega, by omega, by omega, fun hu => ⟨fun g g1 g2 => ?_, fun g g1 g2 => ?_, fun g g1 g2 => ?_⟩⟩
  · have hc : callOk { F.cl with gas := g } = true := callOk_iff.2 ⟨c1, c2, c3, c4, c5, by show 1 ≤ g; omega, g2⟩
    have := ((hno hu g).2 g.toNat (g.toNat + 1) (by omega)).1 (by omega)
    rw [play_fin h1 hc this]
    simp only [Played.mk.injEq, true_and, and_true]
    omega
  · have hc : callOk { F.cl with gas := g } = false := by
      cases h : callOk { F.cl with gas := g }
      · rfl
      · have := (callOk_iff.1 h).2.2.2.2.2.1
        have : 1 ≤ g := this
        omega
    simp [playN, h1, hc]
  · have hc : callOk { F.cl with gas := g } = true := callOk_iff.2 ⟨c1, c2, c3, c4, c5, by show 1 ≤ g; omega, by show g ≤ 10000; omega⟩
    have := ((hno hu g).2 g.toNat (g.toNat + 1) (by omega)).2 (by omega)
    refine ⟨(Fw.runN { F.cl with gas := g } F.code F.rep (g.toNat + 1) [] g.toNat 0 []).asks, ?_⟩
    rw [play_run h1 hc]
    dsimp only
    rw [this, if_neg (by decide)]
/-! what the host answers -/
theorem do_ask (cl : Cl) (code : List Nat) (c b p l : Nat) (st : List Nat) (u : Nat → Nat) (asks : List Fw.Ask) :
    (∃ o, asksO o = asks ∧ ∀ rep, doN cl code rep c b p l st u asks = o) ∨
    (∃ (q : Fw.Ask) (st' : Nat → List Nat), ∀ rep : Nat → Nat × Int, doN cl code rep c b p l st u asks = if (rep asks.length).2 ≠ 0 then .err (rep asks.length).2 (asks ++ [q]) else .more (st' (rep asks.length).1) l (p + sizeN code p) (asks ++ [q])) := by
  unfold doN
  by_cases h0 : c = 0
  · simp only [if_pos h0]; exact .inl ⟨_, rfl, fun _ => rfl⟩
  by_cases h1 : c = 1
  · simp only [if_neg h0, if_pos h1]; exact .inl ⟨_, rfl, fun _ => rfl⟩
  by_cases h2 : c = 2
  · simp only [if_neg h0, if_neg h1, if_pos h2]; exact .inl ⟨_, rfl, fun _ => rfl⟩
  by_cases h3 : c = 3
  · simp only [if_neg h0, if_neg h1, if_neg h2, if_pos h3]; exact .inl ⟨_, rfl, fun _ => rfl⟩
  by_cases h4 : c = 4
  · simp only [if_neg h0, if_neg h1, if_neg h2, if_neg h3, if_pos h4]; exact .inl ⟨_, rfl, fun _ => rfl⟩
  by_cases h5 : c = 5
  · simp only [if_neg h0, if_neg h1, if_neg h2, if_neg h3, if_neg h4, if_pos h5]; exact .inl ⟨_, rfl, fun _ => rfl⟩
  by_cases h6 : c ≤ 12
  · simp only [if_neg h0, if_neg h1, if_neg h2, if_neg h3, if_neg h4, if_neg h5, if_pos h6]
    cases arithN c (u 0) (u 1) <;> exact .inl ⟨_, rfl, fun _ => rfl⟩
  by_cases h7 : c = 13
  · simp only [if_neg h0, if_neg h1, if_neg h2, if_neg h3, if_neg h4, if_neg h5, if_neg h6, if_pos h7]; exact .inl ⟨_, rfl, fun _ => rfl⟩
  by_cases h8 : c = 14
  · simp only [if_neg h0, if_neg h1, if_neg h2, if_neg h3, if_neg h4, if_neg h5, if_neg h6, if_neg h7, if_pos h8]; exact .inl ⟨_, rfl, fun _ => rfl⟩
  by_cases h9 : c = 15
  · simp only [if_neg h0, if_neg h1, if_neg h2, if_neg h3, if_neg h4, if_neg h5, if_neg h6, if_neg h7, if_neg h8, if_pos h9]; exact .inl ⟨_, rfl, fun _ => rfl⟩
  by_cases h10 : c ≤ 23
  · simp only [if_neg h0, if_neg h1, if_neg h2, if_neg h3, if_neg h4, if_neg h5, if_neg h6, if_neg h7, if_neg h8, if_neg h9, if_pos h10]; exact .inl ⟨_, rfl, fun _ => rfl⟩
  · simp only [if_neg h0, if_neg h1, if_neg h2, if_neg h3, if_neg h4, if_neg h5, if_neg h6, if_neg h7, if_neg h8, if_neg h9, if_neg h10]
    cases askN c u with
    | none => exact .inl ⟨_, rfl, fun _ => rfl⟩
    | some q => exact .inr ⟨q, fun x => if c = 24 ∨ c = 26 then st ++ [x] else st, fun _ => rfl⟩
theorem stp_ask (cl : Cl) (code : List Nat) (stk : List Nat) (left p : Nat) (asks : List Fw.Ask) :
    (∃ o, asksO o = asks ∧ ∀ rep, stp cl code rep stk left p asks = o) ∨
    (∃ (q : Fw.Ask) (st' : Nat → List Nat) (l' p' : Nat), ∀ rep : Nat → Nat × Int, stp cl code rep stk left p asks = if (rep asks.length).2 ≠ 0 then .err (rep asks.length).2 (asks ++ [q]) else .more (st' (rep asks.length).1) l' p' (asks ++ [q])) := by
  unfold stp
  by_cases h1 : code.length ≤ p
  · simp only [if_pos h1]; exact .inl ⟨_, rfl, fun _ => rfl⟩
  by_cases h2 : left < priceN (cAt code p)
  · simp only [if_neg h1, if_pos h2]; exact .inl ⟨_, rfl, fun _ => rfl⟩
  by_cases h3 : stk.length < (if cAt code p = 4 ∨ cAt code p = 5 then cAt code (p + 1) + 1 else takesN (cAt code p)) ∨ 64 < stk.length - takesN (cAt code p) + laysN (cAt code p)
  · simp only [if_neg h1, if_neg h2, if_pos h3]; exact .inl ⟨_, rfl, fun _ => rfl⟩
  simp only [if_neg h1, if_neg h2, if_neg h3]
  rcases do_ask cl code (cAt code p) (cAt code (p + 1)) p (left - priceN (cAt code p)) (stk.take (stk.length - takesN (cAt code p))) (fun i => stk.getD (stk.length - takesN (cAt code p) + i) 0) asks with ⟨o, h4, h5⟩ | ⟨q, st', h4⟩
  · exact .inl ⟨o, h4, h5⟩
  · exact .inr ⟨q, st', _, _, h4⟩
theorem run_pre (cl : Cl) (code : List Nat) (rep : Nat → Nat × Int) : ∀ (f : Nat) (stk : List Nat) (left p : Nat) (asks : List Fw.Ask), ∃ t, (Fw.runN cl code rep f stk left p asks).asks = asks ++ t
  | 0, _, _, _, _ => ⟨[], by simp [Fw.runN]⟩
  | f + 1, stk, left, p, asks => by
    rcases stp_ask cl code stk left p asks with ⟨o, h1, h2⟩ | ⟨q, st', l', p', h1⟩
    · have h2 := h2 rep
      cases o with
      | more s l p a =>
        rw [runN_more h2]
        have : a = asks := h1
        subst this
        exact run_pre cl code rep f s l p a
      | fin v l a =>
        have : a = asks := h1
        rw [runN_fin h2]; exact ⟨[], by simp [this]⟩
      | err e a =>
        have : a = asks := h1
        rw [runN_err h2]; exact ⟨[], by simp [this]⟩
    · have h1 := h1 rep
      split at h1
      · rw [runN_err h1]; exact ⟨[q], rfl⟩
      · rw [runN_more h1]
        obtain ⟨t, ht⟩ := run_pre cl code rep f (st' (rep asks.length).1) l' p' (asks ++ [q])
        exact ⟨q :: t, by rw [ht]; simp⟩
theorem run_host {cl : Cl} {code : List Nat} {rep rep' : Nat → Nat × Int} {k : Nat} (hs : ∀ i, i < k → rep' i = rep i) (he : (rep' k).2 ≠ 0) : ∀ (f : Nat) (stk : List Nat) (left p : Nat) (asks : List Fw.Ask), asks.length ≤ k → k < (Fw.runN cl code rep f stk left p asks).asks.length →
    Fw.runN cl code rep' f stk left p asks = ⟨0, 0, (rep' k).2, (Fw.runN cl code rep f stk left p asks).asks.take (k + 1)⟩
  | 0, _, _, _, asks, h1, h2 => by simp [Fw.runN] at h2; omega
  | f + 1, stk, left, p, asks, h1, h2 => by
    rcases stp_ask cl code stk left p asks with ⟨o, g1, g2⟩ | ⟨q, st', l', p', g1⟩
    · have k1 := g2 rep
      have k2 := g2 rep'
      cases o with
      | more s l p a =>
        have : a = asks := g1
        subst this
        rw [runN_more k1] at h2 ⊢
        rw [runN_more k2]
        exact run_host hs he f s l p a h1 h2
      | fin v l a =>
        have : a = asks := g1
        subst this
        rw [runN_fin k1] at h2
        exact absurd h2 (by dsimp only; omega)
      | err e a =>
        have : a = asks := g1
        subst this
        rw [runN_err k1] at h2
        exact absurd h2 (by dsimp only; omega)
    · have k1 := g1 rep
      have k2 := g1 rep'
      by_cases hk : asks.length < k
      · rw [hs _ hk] at k2
        split at k1
        · rw [runN_err k1] at h2
          dsimp only at h2
          rename_i h9
          rw [if_pos h9] at k2
          rw [List.length_append, List.length_singleton] at h2
          omega
        · rename_i h9
          rw [if_neg h9] at k2
          rw [runN_more k1] at h2 ⊢
          rw [runN_more k2]
          exact run_host hs he f _ l' p' _ (by rw [List.length_append, List.length_singleton]; omega) h2
      · have hk : asks.length = k := by omega
        rw [if_pos (by rw [hk]; exact he)] at k2
        rw [runN_err k2, hk]
        have ht : ∃ t, (Fw.runN cl code rep (f + 1) stk left p asks).asks = asks ++ [q] ++ t := by
          split at k1
          · rw [runN_err k1]; exact ⟨[], by simp⟩
          · rw [runN_more k1]; exact run_pre ..
        obtain ⟨t, ht⟩ := ht
        rw [ht, List.take_append_of_le_length (by simp [hk]), List.take_of_length_le (by simp [hk])]
theorem play_host {cl : Cl} {code : List Nat} {rep rep' : Nat → Nat × Int} {k : Nat} (hs : ∀ i, i < k → rep' i = rep i) (he : (rep' k).2 ≠ 0) (hk : k < (playN cl code rep).asks.length) :
    playN cl code rep' = ⟨0, 0, (rep' k).2, (playN cl code rep).asks.take (k + 1)⟩ := by
  cases h1 : chkN code with
  | false => simp [playN, h1] at hk
  | true =>
    cases h2 : callOk cl with
    | false => simp [playN, h1, h2] at hk
    | true =>
      have ha : (playN cl code rep).asks = (Fw.runN cl code rep (cl.gas.toNat + 1) [] cl.gas.toNat 0 []).asks := by
        rw [play_run h1 h2]; dsimp only; split <;> rfl
      rw [ha] at hk ⊢
      exact play_err h1 h2 he (run_host hs he _ [] _ 0 [] (Nat.zero_le _) hk)
/-! four small programs -/
def twoC (x y : Nat) : Cl := ⟨fun _ => 0, fun _ => 0, 0, 0, [x, y], 0, 100⟩
def code1 : List Nat := [16, 0, 16, 1, 6, 16, 1, 7, 1]
def code2 : List Nat := [16, 0, 16, 1, 9, 1]
def code3 : List Nat := [16, 0, 16, 1, 10, 1]
def code4 : List Nat := [16, 0, 16, 1, 9, 16, 1, 8, 16, 0, 16, 1, 10, 6, 1]
def code5 : List Nat := [16, 0, 16, 1, 10, 16, 1, 11, 1]
theorem two_call (x y : Nat) : callOk (twoC x y) = true := by simp [callOk, twoC]
theorem diff1 (x y : Nat) (rep : Nat → Nat × Int) : ((playN (twoC x y) code1 rep).e = 0 ∧ (playN (twoC x y) code1 rep).v = x) ∨ (playN (twoC x y) code1 rep).e = 104 := by
  have hc : chkN code1 = true := by decide
  by_cases h : x + y < 115792089237316195423570985008687907853269984665640564039457584007913129639936
  · left
    have e1 : arithN 6 x y = some (x + y) := by simp [arithN, h]
    have e2 : arithN 7 (x + y) y = some x := by simp [arithN]
    have hr : Fw.runN (twoC x y) code1 rep 101 [] 100 0 [] = ⟨x, 89, 0, []⟩ := by
      rw [runN_more (stk' := [x]) (left' := 98) (p' := 2) (asks' := []) rfl]
      rw [runN_more (stk' := [x, y]) (left' := 96) (p' := 4) (asks' := []) rfl]
      rw [runN_more (stk' := [x + y]) (left' := 94) (p' := 5) (asks' := []) (by show (match arithN 6 x y with | none => Out.err 104 [] | some r => Out.more [r] 94 5 []) = _; rw [e1])]
      rw [runN_more (stk' := [x + y, y]) (left' := 92) (p' := 7) (asks' := []) rfl]
      rw [runN_more (stk' := [x]) (left' := 90) (p' := 8) (asks' := []) (by show (match arithN 7 (x + y) y with | none => Out.err 104 [] | some r => Out.more [r] 90 8 []) = _; rw [e2])]
      rw [runN_fin (v := x) (left' := 89) (asks' := []) rfl]
    rw [play_fin hc (two_call x y) hr]
    exact ⟨rfl, rfl⟩
  · right
    have e1 : arithN 6 x y = none := by simp [arithN, h]
    have hr : Fw.runN (twoC x y) code1 rep 101 [] 100 0 [] = ⟨0, 0, 104, []⟩ := by
      rw [runN_more (stk' := [x]) (left' := 98) (p' := 2) (asks' := []) rfl]
      rw [runN_more (stk' := [x, y]) (left' := 96) (p' := 4) (asks' := []) rfl]
      rw [runN_err (e := 104) (asks' := []) (by show (match arithN 6 x y with | none => Out.err 104 [] | some r => Out.more [r] 94 5 []) = _; rw [e1])]
    rw [play_err hc (two_call x y) (by decide) hr]
theorem diff2 (x : Nat) (rep : Nat → Nat × Int) : (playN (twoC x 0) code2 rep).e = 104 := by
  have hc : chkN code2 = true := by decide
  have e1 : arithN 9 x 0 = none := by simp [arithN]
  have hr : Fw.runN (twoC x 0) code2 rep 101 [] 100 0 [] = ⟨0, 0, 104, []⟩ := by
    rw [runN_more (stk' := [x]) (left' := 98) (p' := 2) (asks' := []) rfl]
    rw [runN_more (stk' := [x, 0]) (left' := 96) (p' := 4) (asks' := []) rfl]
    rw [runN_err (e := 104) (asks' := []) (by show (match arithN 9 x 0 with | none => Out.err 104 [] | some r => Out.more [r] 86 5 []) = _; rw [e1])]
  rw [play_err hc (two_call x 0) (by decide) hr]
theorem diff3 (x : Nat) (rep : Nat → Nat × Int) : (playN (twoC x 0) code3 rep).e = 104 := by
  have hc : chkN code3 = true := by decide
  have e1 : arithN 10 x 0 = none := by simp [arithN]
  have hr : Fw.runN (twoC x 0) code3 rep 101 [] 100 0 [] = ⟨0, 0, 104, []⟩ := by
    rw [runN_more (stk' := [x]) (left' := 98) (p' := 2) (asks' := []) rfl]
    rw [runN_more (stk' := [x, 0]) (left' := 96) (p' := 4) (asks' := []) rfl]
    rw [runN_err (e := 104) (asks' := []) (by show (match arithN 10 x 0 with | none => Out.err 104 [] | some r => Out.more [r] 86 5 []) = _; rw [e1])]
  rw [play_err hc (two_call x 0) (by decide) hr]
theorem diff4 (x y : Nat) (hx : x < 115792089237316195423570985008687907853269984665640564039457584007913129639936) (hy : y ≠ 0) (rep : Nat → Nat × Int) : (playN (twoC x y) code4 rep).e = 0 ∧ (playN (twoC x y) code4 rep).v = x := by
  have hc : chkN code4 = true := by decide
  have hd := Nat.div_add_mod x y
  rw [Nat.mul_comm] at hd
  have e1 : arithN 9 x y = some (x / y) := by simp [arithN, hy]
  have e2 : arithN 8 (x / y) y = some (x / y * y) := by
    have : x / y * y < 115792089237316195423570985008687907853269984665640564039457584007913129639936 := by omega
    unfold arithN; rw [if_neg (by decide), if_neg (by decide), if_pos rfl, if_pos this]
  have e3 : arithN 10 x y = some (x % y) := by simp [arithN, hy]
  have e4 : arithN 6 (x / y * y) (x % y) = some x := by
    unfold arithN; rw [if_pos rfl, hd, if_pos hx]
  have hr : Fw.runN (twoC x y) code4 rep 101 [] 100 0 [] = ⟨x, 62, 0, []⟩ := by
    rw [runN_more (stk' := [x]) (left' := 98) (p' := 2) (asks' := []) rfl]
    rw [runN_more (stk' := [x, y]) (left' := 96) (p' := 4) (asks' := []) rfl]
    rw [runN_more (stk' := [x / y]) (left' := 86) (p' := 5) (asks' := []) (by show (match arithN 9 x y with | none => Out.err 104 [] | some r => Out.more [r] 86 5 []) = _; rw [e1])]
    rw [runN_more (stk' := [x / y, y]) (left' := 84) (p' := 7) (asks' := []) rfl]
    rw [runN_more (stk' := [x / y * y]) (left' := 79) (p' := 8) (asks' := []) (by show (match arithN 8 (x / y) y with | none => Out.err 104 [] | some r => Out.more [r] 79 8 []) = _; rw [e2])]
    rw [runN_more (stk' := [x / y * y, x]) (left' := 77) (p' := 10) (asks' := []) rfl]
    rw [runN_more (stk' := [x / y * y, x, y]) (left' := 75) (p' := 12) (asks' := []) rfl]
    rw [runN_more (stk' := [x / y * y, x % y]) (left' := 65) (p' := 13) (asks' := []) (by show (match arithN 10 x y with | none => Out.err 104 [] | some r => Out.more [x / y * y, r] 65 13 []) = _; rw [e3])]
    rw [runN_more (stk' := [x]) (left' := 63) (p' := 14) (asks' := []) (by show (match arithN 6 (x / y * y) (x % y) with | none => Out.err 104 [] | some r => Out.more [r] 63 14 []) = _; rw [e4])]
    rw [runN_fin (v := x) (left' := 62) (asks' := []) rfl]
  rw [play_fin hc (two_call x y) hr]
  exact ⟨rfl, rfl⟩
theorem diff5 (x y : Nat) (hy : y ≠ 0) (rep : Nat → Nat × Int) : (playN (twoC x y) code5 rep).e = 0 ∧ (playN (twoC x y) code5 rep).v = 1 := by
  have hc : chkN code5 = true := by decide
  have e1 : arithN 10 x y = some (x % y) := by simp [arithN, hy]
  have e2 : arithN 11 (x % y) y = some 1 := by
    have := Nat.mod_lt x (Nat.pos_of_ne_zero hy)
    simp [arithN, this, bit1]
  have hr : Fw.runN (twoC x y) code5 rep 101 [] 100 0 [] = ⟨1, 81, 0, []⟩ := by
    rw [runN_more (stk' := [x]) (left' := 98) (p' := 2) (asks' := []) rfl]
    rw [runN_more (stk' := [x, y]) (left' := 96) (p' := 4) (asks' := []) rfl]
    rw [runN_more (stk' := [x % y]) (left' := 86) (p' := 5) (asks' := []) (by show (match arithN 10 x y with | none => Out.err 104 [] | some r => Out.more [r] 86 5 []) = _; rw [e1])]
    rw [runN_more (stk' := [x % y, y]) (left' := 84) (p' := 7) (asks' := []) rfl]
    rw [runN_more (stk' := [1]) (left' := 82) (p' := 8) (asks' := []) (by show (match arithN 11 (x % y) y with | none => Out.err 104 [] | some r => Out.more [r] 82 8 []) = _; rw [e2])]
    rw [runN_fin (v := 1) (left' := 81) (asks' := []) rfl]
  rw [play_fin hc (two_call x y) hr]
  exact ⟨rfl, rfl⟩
end Go.Proofs.Ytlapmbkfmbkdoaa
