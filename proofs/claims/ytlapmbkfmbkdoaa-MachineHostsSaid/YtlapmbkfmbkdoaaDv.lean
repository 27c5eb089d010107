/- What a step keeps. No Go in sight. -/
import Derived.Test.YtlapmbkfmbkdoaaDu
namespace Go.Proofs.Ytlapmbkfmbkdoaa
open Go Go.Fw Go.RowKit
def validP (code : List Nat) (p : Nat) : Prop := p = code.length ∨ ∃ l, placesN code = some l ∧ p ∈ l
theorem plc_next {xs : List Nat} : ∀ (f p : Nat) (l : List Nat), plc xs f p = some l → p ≤ xs.length → ∀ q ∈ l, q + sizeN xs q = xs.length ∨ q + sizeN xs q ∈ l
  | 0, _, _, h, _ => by simp [plc] at h
  | f + 1, p, l, h, hp => by
    simp only [plc] at h
    split at h
    · simp at h; subst h; simp
    split at h
    · simp at h
    · rename_i h1 h2
      cases hr : plc xs f (p + sizeN xs p) with
      | none => rw [hr] at h; simp at h
      | some r =>
        rw [hr] at h
        simp only [Option.map_some, Option.some.injEq] at h
        subst h
        have hle := (sizeN_le xs p).resolve_left h2
        intro q hq
        rcases List.mem_cons.1 hq with rfl | hq
        · cases f with
          | zero => simp [plc] at hr
          | succ f =>
            by_cases he : xs.length ≤ q + sizeN xs q
            · left; omega
            · right
              simp only [plc, if_neg he] at hr
              split at hr
              · simp at hr
              · cases hr2 : plc xs f (q + sizeN xs q + sizeN xs (q + sizeN xs q)) with
                | none => rw [hr2] at hr; simp at hr
                | some r2 => rw [hr2] at hr; simp at hr; subst hr; simp
        · rcases plc_next f _ r hr hle q hq with h3 | h3
          · exact .inl h3
          · exact .inr (List.mem_cons_of_mem _ h3)
theorem places_next {xs l : List Nat} (h : placesN xs = some l) {q : Nat} (hq : q ∈ l) : validP xs (q + sizeN xs q) := by
  rcases plc_next _ _ _ h (Nat.zero_le _) q hq with h1 | h1
  · exact .inl h1
  · exact .inr ⟨l, h, h1⟩
theorem valid_0 {xs : List Nat} (h : chkN xs = true) : validP xs 0 := by
  cases hl : placesN xs with
  | none => simp [chkN, hl] at h
  | some l =>
    have h1 : 1 ≤ xs.length := by
      unfold chkN at h
      simp only [Bool.and_eq_true, decide_eq_true_eq] at h
      exact h.1.1
    refine .inr ⟨l, hl, ?_⟩
    have := hl
    unfold placesN at this
    simp only [plc] at this
    rw [if_neg (by omega)] at this
    split at this
    · simp at this
    · cases hr : plc xs xs.length (0 + sizeN xs 0) with
      | none => rw [hr] at this; simp at this
      | some r => rw [hr] at this; simp at this; subst this; simp
theorem valid_jump {xs : List Nat} (h : chkN xs = true) {p : Nat} (hp : p < xs.length) (hv : validP xs p) (hj : cAt xs p = 14 ∨ cAt xs p = 15) : validP xs (targetN xs p) := by
  rcases hv with hv | ⟨l, hl, hm⟩
  · omega
  · refine .inr ⟨l, hl, ?_⟩
    simp only [chkN, hl, Bool.and_eq_true] at h
    have := List.all_eq_true.1 h.2 p hm
    rw [isJump_of hj] at this
    simpa using this
theorem valid_size {xs : List Nat} {p : Nat} (hp : p < xs.length) (hv : validP xs p) : sizeN xs p ≠ 0 := by
  rcases hv with hv | ⟨l, hl, hm⟩
  · omega
  · exact (places_mem hl p hm).2
theorem valid_next {xs : List Nat} {p : Nat} (hp : p < xs.length) (hv : validP xs p) : validP xs (p + sizeN xs p) := by
  rcases hv with hv | ⟨l, hl, hm⟩
  · omega
  · exact places_next hl hm
theorem allW_snoc {l : List Nat} {x : Nat} (h : AllW l) (hx : x < 115792089237316195423570985008687907853269984665640564039457584007913129639936) : AllW (l ++ [x]) := by
  intro y hy
  rcases List.mem_append.1 hy with h1 | h1
  · exact h y h1
  · rw [List.mem_singleton.1 h1]; exact hx
theorem allW_set {l : List Nat} (h : AllW l) {k x : Nat} (hx : x < 115792089237316195423570985008687907853269984665640564039457584007913129639936) : AllW (l.set k x) := by
  intro y hy
  rcases List.mem_or_eq_of_mem_set hy with h1 | h1
  · exact h y h1
  · rw [h1]; exact hx
theorem rep_val {F : Fx} (h : ∀ r ∈ F.reps, r.1 < 115792089237316195423570985008687907853269984665640564039457584007913129639936) (k : Nat) : (F.rep k).1 < 115792089237316195423570985008687907853269984665640564039457584007913129639936 := by
  rw [Fx.rep, List.getD_eq_getElem?_getD]
  cases hk : F.reps[k]? with
  | none => exact (by decide)
  | some r => exact h r (List.mem_of_getElem? hk)
theorem told_val {F : Fx} (hK : F.Ok) {c b left : Nat} (hl : left ≤ 10000) : toldN F.cl c b left < 115792089237316195423570985008687907853269984665640564039457584007913129639936 := by
  have hc := callOk_tok hK.call
  unfold toldN
  repeat' split
  · exact allW_getD hK.argsW b
  · omega
  · exact numB_lt32 (by simp) (byt_range hK.caller 20)
  · exact numB_lt32 (by simp) (byt_range hK.self 20)
  · omega
  · exact hK.amount
  · omega
  · omega
theorem arith_val {c x y r : Nat} (hx : x < 115792089237316195423570985008687907853269984665640564039457584007913129639936) (h : arithN c x y = some r) : r < 115792089237316195423570985008687907853269984665640564039457584007913129639936 := by
  unfold arithN at h
  have hb : ∀ b, bit1 b ≤ 1 := fun b => by cases b <;> decide
  repeat' split at h
  all_goals first | (simp at h; done) | (simp only [Option.some.injEq] at h; subst h; first | assumption | omega | exact Nat.lt_of_le_of_lt (hb _) (by decide) | exact Nat.lt_of_le_of_lt (Nat.div_le_self _ _) hx | exact Nat.lt_of_le_of_lt (Nat.mod_le _ _) hx)
theorem do_more {F : Fx} (hK : F.Ok) {c b p left : Nat} {st : List Nat} {u : Nat → Nat} {asks : List Fw.Ask} {stk' : List Nat} {left' p' : Nat} {asks' : List Fw.Ask} (h28 : c < 28) (hW : AllW st) (hu : ∀ i, u i < 115792089237316195423570985008687907853269984665640564039457584007913129639936) (hl : left ≤ 10000)
    (hsz : c = 2 → sizeN F.code p ≤ 34) (h : doN F.cl F.code F.rep c b p left st u asks = .more stk' left' p' asks') :
    left' = left ∧ (p' = p + sizeN F.code p ∨ ((c = 14 ∨ c = 15) ∧ p' = targetN F.code p)) ∧ stk'.length = st.length + laysN c ∧ AllW stk' ∧ asks'.length ≤ asks.length + 1 ∧ (c < 24 → asks' = asks) := by
  have hb : ∀ b, bit1 b < 115792089237316195423570985008687907853269984665640564039457584007913129639936 := fun b => by cases b <;> decide
  have hcases : c = 0 ∨ c = 1 ∨ c = 2 ∨ c = 3 ∨ c = 4 ∨ c = 5 ∨ (6 ≤ c ∧ c ≤ 12) ∨ c = 13 ∨ c = 14 ∨ c = 15 ∨ (16 ≤ c ∧ c ≤ 23) ∨ 24 ≤ c := by omega
  rcases hcases with rfl | rfl | rfl | rfl | rfl | rfl | ⟨h1, h2⟩ | rfl | rfl | rfl | ⟨h1, h2⟩ | h1
  · simp [doN] at h
  · simp [doN] at h
  · simp [doN] at h
    obtain ⟨rfl, rfl, rfl, rfl⟩ := h
    exact ⟨rfl, .inl rfl, by simp [laysN], allW_snoc hW (numB_lt32 (by rw [List.length_take]; have := hsz rfl; omega) fun d hd => hK.byt d (List.drop_subset _ _ (List.take_subset _ _ hd))), by omega, fun _ => rfl⟩
  · simp [doN] at h
    obtain ⟨rfl, rfl, rfl, rfl⟩ := h
    exact ⟨rfl, .inl rfl, by simp [laysN], hW, by omega, fun _ => rfl⟩
  · rw [show doN F.cl F.code F.rep 4 b p left st u asks = .more (st ++ [st.getD (st.length - 1 - b) 0]) left (p + sizeN F.code p) asks from rfl] at h
    simp only [Out.more.injEq] at h
    obtain ⟨rfl, rfl, rfl, rfl⟩ := h
    exact ⟨rfl, .inl rfl, by simp [laysN], allW_snoc hW (allW_getD hW _), by omega, fun _ => rfl⟩
  · rw [show doN F.cl F.code F.rep 5 b p left st u asks = .more (swapN st b) left (p + sizeN F.code p) asks from rfl] at h
    simp only [Out.more.injEq] at h
    obtain ⟨rfl, rfl, rfl, rfl⟩ := h
    exact ⟨rfl, .inl rfl, by simp [laysN, swapN], allW_set (allW_set hW (allW_getD hW _)) (allW_getD hW _), by omega, fun _ => rfl⟩
  · have e : doN F.cl F.code F.rep c b p left st u asks = (match arithN c (u 0) (u 1) with | none => .err 104 asks | some r => .more (st ++ [r]) left (p + sizeN F.code p) asks) := by
      unfold doN
      rw [if_neg (by omega), if_neg (by omega), if_neg (by omega), if_neg (by omega), if_neg (by omega), if_neg (by omega), if_pos h2]
      rfl
    rw [e] at h
    cases ha : arithN c (u 0) (u 1) with
    | none => rw [ha] at h; simp at h
    | some r =>
      rw [ha] at h
      simp only [Out.more.injEq] at h
      obtain ⟨rfl, rfl, rfl, rfl⟩ := h
      have hla : laysN c = 1 := by
        have : ∀ c, c < 13 → 6 ≤ c → laysN c = 1 := by decide
        exact this c (by omega) h1
      exact ⟨rfl, .inl rfl, by simp [hla], allW_snoc hW (arith_val (hu 0) ha), by omega, fun _ => rfl⟩
  · rw [show doN F.cl F.code F.rep 13 b p left st u asks = .more (st ++ [bit1 (decide (u 0 = 0))]) left (p + sizeN F.code p) asks from rfl] at h
    simp only [Out.more.injEq] at h
    obtain ⟨rfl, rfl, rfl, rfl⟩ := h
    exact ⟨rfl, .inl rfl, by simp [laysN], allW_snoc hW (hb _), by omega, fun _ => rfl⟩
  · simp [doN] at h
    obtain ⟨rfl, rfl, rfl, rfl⟩ := h
    exact ⟨rfl, .inr ⟨.inl rfl, rfl⟩, by simp [laysN], hW, by omega, fun _ => rfl⟩
  · rw [show doN F.cl F.code F.rep 15 b p left st u asks = .more st left (if u 0 ≠ 0 then targetN F.code p else p + sizeN F.code p) asks from rfl] at h
    simp only [Out.more.injEq] at h
    obtain ⟨rfl, rfl, rfl, rfl⟩ := h
    refine ⟨rfl, ?_, by simp [laysN], hW, by omega, fun _ => rfl⟩
    split
    · exact .inr ⟨.inr rfl, rfl⟩
    · exact .inl rfl
  · have e : doN F.cl F.code F.rep c b p left st u asks = .more (st ++ [toldN F.cl c b left]) left (p + sizeN F.code p) asks := by
      unfold doN
      rw [if_neg (by omega), if_neg (by omega), if_neg (by omega), if_neg (by omega), if_neg (by omega), if_neg (by omega), if_neg (by omega), if_neg (by omega), if_neg (by omega), if_neg (by omega), if_pos h2]
    rw [e] at h
    simp only [Out.more.injEq] at h
    obtain ⟨rfl, rfl, rfl, rfl⟩ := h
    have hla : laysN c = 1 := by
      have : ∀ c, c < 24 → 16 ≤ c → laysN c = 1 := by decide
      exact this c (by omega) h1
    exact ⟨rfl, .inl rfl, by simp [hla], allW_snoc hW (told_val hK hl), by omega, fun _ => rfl⟩
  · have e : doN F.cl F.code F.rep c b p left st u asks = (match askN c u with
      | none => .err 104 asks
      | some q => if (F.rep asks.length).2 ≠ 0 then .err (F.rep asks.length).2 (asks ++ [q]) else .more (if c = 24 ∨ c = 26 then st ++ [(F.rep asks.length).1] else st) left (p + sizeN F.code p) (asks ++ [q])) := by
      unfold doN
      rw [if_neg (by omega), if_neg (by omega), if_neg (by omega), if_neg (by omega), if_neg (by omega), if_neg (by omega), if_neg (by omega), if_neg (by omega), if_neg (by omega), if_neg (by omega), if_neg (by omega)]
      rfl
    rw [e] at h
    cases ha : askN c u with
    | none => rw [ha] at h; simp at h
    | some q =>
      rw [ha] at h
      simp only at h
      split at h
      · simp at h
      · simp only [Out.more.injEq] at h
        obtain ⟨rfl, rfl, rfl, rfl⟩ := h
        refine ⟨rfl, .inl rfl, ?_, ?_, by simp, fun h9 => by omega⟩
        · have : ∀ c, c < 28 → 24 ≤ c → laysN c = if c = 24 ∨ c = 26 then 1 else 0 := by decide
          rw [this c h28 h1]
          split <;> simp
        · split
          · exact allW_snoc hW (rep_val hK.reps _)
          · exact hW
theorem stp_more {F : Fx} (hK : F.Ok) {stk : List Nat} {left p : Nat} {asks : List Fw.Ask} {stk' : List Nat} {left' p' : Nat} {asks' : List Fw.Ask} (hv : validP F.code p) (hl : stk.length ≤ 64) (hW : AllW stk) (hq : left ≤ 10000)
    (h : stp F.cl F.code F.rep stk left p asks = .more stk' left' p' asks') : validP F.code p' ∧ stk'.length ≤ 64 ∧ AllW stk' ∧ left' < left ∧ asks'.length + left' ≤ asks.length + left := by
  by_cases h1 : F.code.length ≤ p
  · rw [stp_end h1] at h; simp at h
  have hp : p < F.code.length := by omega
  have hs := valid_size hp hv
  have h28 := size_28 hs
  have hsm := take_small _ h28
  have htd : takesN (cAt F.code p) ≤ deepN F.code p := deep_le
  by_cases h2 : left < priceN (cAt F.code p)
  · rw [stp_gas hp h2] at h; simp at h
  by_cases h3 : stk.length < deepN F.code p ∨ 64 < stk.length - takesN (cAt F.code p) + laysN (cAt F.code p)
  · rw [stp_stack hp h2 h3] at h; simp at h
  rw [stp_do hp h2 h3] at h
  have hsz : cAt F.code p = 2 → sizeN F.code p ≤ 34 := fun h2 => by
    revert hs; unfold sizeN
    repeat' split
    all_goals omega
  obtain ⟨rfl, k2, k3, k4, k5, k6⟩ := do_more hK h28 (fun x hx => hW x (List.take_subset _ _ hx)) (fun i => allW_getD hW _) (by omega) hsz h
  refine ⟨?_, ?_, k4, by omega, ?_⟩
  · rcases k2 with rfl | ⟨hj, rfl⟩
    · exact valid_next hp hv
    · exact valid_jump hK.chk hp hv hj
  · rw [k3, List.length_take]; omega
  · omega
end Go.Proofs.Ytlapmbkfmbkdoaa
