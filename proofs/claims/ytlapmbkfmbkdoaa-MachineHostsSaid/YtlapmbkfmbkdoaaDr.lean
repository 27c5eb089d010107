/- Every instruction does what the plain machine says. -/
import Derived.Test.YtlapmbkfmbkdoaaM8
namespace Go.Proofs.Ytlapmbkfmbkdoaa
open Go Go.Fw Go.RowKit
theorem RdK.left {w : World} {s1 s2 : Seg} {A : Option Addr} {cs : List Value} (h : RdK w ((s1 ++ s2).map (·.1)) A cs) : RdK w (s1.map (·.1)) A cs :=
  ⟨h.1, fun a ha hne hm => h.2 a ha hne (by rw [List.map_append]; exact List.mem_append_left _ hm)⟩
theorem Own.left {w : World} {s1 s2 : Seg} (h : Own w (s1 ++ s2)) : Own w s1 :=
  ⟨fun p hp => h.1 p (List.mem_append_left _ hp), by have := h.2; rw [List.map_append] at this; exact (List.nodup_append.1 this).1⟩
/-- what an instruction leaves -/
def Did (F : Fx) (V : Vr) (o : Out) (x : Value) (s' : Seg) : Prop := match o with
  | .more stk left p asks => x = .int .i64 0 ∧ left = V.left ∧ ∃ s1 s2, s' = s1 ++ s2 ∧ RunS F { V with next := p } stk s1 ∧ HostS F asks s2
  | .fin val left asks => x = .int .i64 0 ∧ left = V.left ∧ ∃ stk s1 s2, s' = s1 ++ s2 ∧ RunS F { V with ended := true, value := val } stk s1 ∧ HostS F asks s2
  | .err e asks => x = .int .i64 e ∧ e ≠ 0 ∧ ∃ s1 s2, s' = s1 ++ s2 ∧ HostS F asks s2
section
variable {F : Fx} {V : Vr} {stk stk' : List Nat} {asks : List Fw.Ask} {s1 s2 : Seg} {vb k : Nat} {u : Nat → Nat} {w0 : World} {vs : List Value} {val : Nat}
theorem did_more {V' : Vr} (ho : Own w0 (s1 ++ s2)) (hH : HostS F asks s2) (h : Ret Try.prog k vs w0 (s1.map (·.1)) (fun v s' => v = .int .i64 0 ∧ RunS F V' stk' s')) {p : Nat} (hV : { V with next := p } = V') :
    Ret Try.prog k vs w0 ((s1 ++ s2).map (·.1)) (Did F V (.more stk' V.left p asks)) := by
  subst hV
  exact (Ret.frame ho h).mono fun v s ⟨s1', ⟨h1, h2⟩, h3⟩ => ⟨h1, rfl, s1', s2, h3, h2, hH⟩
theorem did_err {e : Int} (he : e ≠ 0) (ho : Own w0 (s1 ++ s2)) (hH : HostS F asks s2) (h : Ret Try.prog k vs w0 (s1.map (·.1)) (fun v s' => v = .int .i64 e ∧ s' = s1)) :
    Ret Try.prog k vs w0 ((s1 ++ s2).map (·.1)) (Did F V (.err e asks)) :=
  (Ret.frame ho h).mono fun v s ⟨s1', ⟨h1, h2⟩, h3⟩ => ⟨h1, he, s1', s2, h3, hH⟩
theorem did_stay (ho : Own w0 (s1 ++ s2)) (hRun : RunS F V stk s1) (hH : HostS F asks s2) (h : Ret Try.prog k vs w0 (s1.map (·.1)) (fun v s' => v = .int .i64 0 ∧ s' = s1)) :
    Ret Try.prog k vs w0 ((s1 ++ s2).map (·.1)) (Did F V (.more stk V.left V.next asks)) :=
  (Ret.frame ho h).mono fun v s ⟨s1', ⟨h1, h2⟩, h3⟩ => ⟨h1, rfl, s1', s2, h3, by subst h2; exact hRun, hH⟩
theorem did_H {p : Nat} (hV : V.next = p) (h : Ret Try.prog k vs w0 ((s1 ++ s2).map (·.1)) (DidH F V stk' asks)) : Ret Try.prog k vs w0 ((s1 ++ s2).map (·.1)) (Did F V (.more stk' V.left p asks)) :=
  h.mono fun v s ⟨h1, a, b, h2, h3, h4⟩ => ⟨h1, rfl, a, b, h2, by subst hV; exact h3, h4⟩
theorem did_E {e : Int} (he : e ≠ 0) (h : Ret Try.prog k vs w0 ((s1 ++ s2).map (·.1)) (ErrH F asks e)) : Ret Try.prog k vs w0 ((s1 ++ s2).map (·.1)) (Did F V (.err e asks)) :=
  h.mono fun v s ⟨h1, a, b, h2, h3⟩ => ⟨h1, he, a, b, h2, h3⟩
end
theorem op_does (c : Nat) (F : Fx) (V : Vr) (stk : List Nat) (asks : List Fw.Ask) (s1 s2 : Seg) (vb : Nat) (u : Nat → Nat) (w0 : World)
    (hNX : NextOK F) (hK : F.Ok) (hc : cAt F.code V.p = c) (h28 : c < 28) (hp : V.p < F.code.length) (hs : sizeN F.code V.p ≠ 0) (hn : V.next = V.p + sizeN F.code V.p) (hq : V.left ≤ 10000)
    (hb : c = 4 ∨ c = 5 → cAt F.code (V.p + 1) < stk.length)
    (hRun : RunS F V stk s1) (hH : HostS F asks s2) (ho : Own w0 (s1 ++ s2)) (hv : RdK w0 ((s1 ++ s2).map (·.1)) (some ⟨vb, 0, none⟩) (vc u)) (hvM : ∀ i, u i < 115792089237316195423570985008687907853269984665640564039457584007913129639936)
    (hD : F.Rds w0 ((s1 ++ s2).map (·.1))) (hl : stk.length ≤ 64) (hla : asks.length ≤ 20000) :
    Ret Try.prog (49 + c) [.pointer (some ⟨F.rb, 0, none⟩), .slice (some ⟨vb, 0, none⟩) (takesN c) 3] w0 ((s1 ++ s2).map (·.1)) (Did F V (doN F.cl F.code F.rep c (cAt F.code (V.p + 1)) V.p V.left stk u asks)) := by
  have ho1 := Own.left ho
  have hC := RdK.left hD.code
  have hA := RdK.left hD.args
  have hv1 := RdK.left hv
  have hsz := (sizeN_le F.code V.p).resolve_left hs
  have e1 : V.p + sizeN F.code V.p = V.next := hn.symm
  have hV : { V with next := V.p + sizeN F.code V.p } = V := by rw [e1]
  have op2 : cAt F.code V.p = 4 ∨ cAt F.code V.p = 5 ∨ cAt F.code V.p = 16 → V.p + 1 < F.code.length := fun h => by
    have : sizeN F.code V.p = 2 := by
      revert hs; unfold sizeN
      repeat' split
      all_goals omega
    omega
  have op3 : cAt F.code V.p = 14 ∨ cAt F.code V.p = 15 → V.p + 3 ≤ F.code.length := fun h => jump_size hp hs (isJump_of h)
  have hcases : c = 0 ∨ c = 1 ∨ c = 2 ∨ c = 3 ∨ c = 4 ∨ c = 5 ∨ c = 6 ∨ c = 7 ∨ c = 8 ∨ c = 9 ∨ c = 10 ∨ c = 11 ∨ c = 12 ∨ c = 13 ∨ c = 14 ∨ c = 15 ∨ c = 16 ∨ c = 17 ∨ c = 18 ∨ c = 19 ∨ c = 20 ∨ c = 21 ∨ c = 22 ∨ c = 23 ∨ c = 24 ∨ c = 25 ∨ c = 26 ∨ c = 27 := by omega
  rcases hcases with rfl | rfl | rfl | rfl | rfl | rfl | rfl | rfl | rfl | rfl | rfl | rfl | rfl | rfl | rfl | rfl | rfl | rfl | rfl | rfl | rfl | rfl | rfl | rfl | rfl | rfl | rfl | rfl
  · exact did_err (by decide) ho hH (stop_op s1 _ F.rb w0 ho1)
  · exact (Ret.frame ho (done_op F V stk s1 vb u w0 hRun ho1 hv1 hvM hl)).mono fun v s ⟨s1', ⟨h1, h2⟩, h3⟩ => ⟨h1, rfl, stk, s1', s2, h3, h2, hH⟩
  · have h2 : sizeN F.code V.p = 2 + cAt F.code (V.p + 1) ∧ 1 ≤ cAt F.code (V.p + 1) ∧ cAt F.code (V.p + 1) ≤ 32 := by
      revert hs; unfold sizeN
      repeat' split
      all_goals omega
    have := push_op F V stk s1 (.slice (some ⟨vb, 0, none⟩) 0 3) (sizeN F.code V.p - 2) w0 hRun ho1 hK hC hl (by omega) (by omega) (by omega)
    exact did_more ho hH this hV
  · rw [show doN F.cl F.code F.rep 3 (cAt F.code (V.p + 1)) V.p V.left stk u asks = .more stk V.left (V.p + sizeN F.code V.p) asks from rfl, e1]
    exact did_stay ho hRun hH (pop_op s1 _ F.rb w0 ho1)
  · exact did_more ho hH (dup_op F V stk s1 (.slice (some ⟨vb, 0, none⟩) 0 3) w0 hRun ho1 hK hC hl (op2 (by omega)) (hb (by omega))) hV
  · exact did_more ho hH (swap_op F V stk s1 (.slice (some ⟨vb, 0, none⟩) 0 3) w0 hRun ho1 hK hC hl (op2 (by omega)) (hb (by omega))) hV
  · rw [show doN F.cl F.code F.rep 6 (cAt F.code (V.p + 1)) V.p V.left stk u asks = (match arithN 6 (u 0) (u 1) with | none => .err 104 asks | some r => .more (stk ++ [r]) V.left (V.p + sizeN F.code V.p) asks) from rfl]
    by_cases h : u 0 + u 1 < 115792089237316195423570985008687907853269984665640564039457584007913129639936
    · rw [show arithN 6 (u 0) (u 1) = some (u 0 + u 1) from if_pos h]
      exact did_more ho hH (add_good F V stk s1 vb u w0 hRun ho1 hv1 hvM hl h) hV
    · rw [show arithN 6 (u 0) (u 1) = none from if_neg h]
      exact did_err (by decide) ho hH (add_bad F V stk s1 vb u w0 hRun ho1 hv1 hvM hl h)
  · rw [show doN F.cl F.code F.rep 7 (cAt F.code (V.p + 1)) V.p V.left stk u asks = (match arithN 7 (u 0) (u 1) with | none => .err 104 asks | some r => .more (stk ++ [r]) V.left (V.p + sizeN F.code V.p) asks) from rfl]
    by_cases h : u 1 ≤ u 0
    · rw [show arithN 7 (u 0) (u 1) = some (u 0 - u 1) from by (have h' : ¬ u 0 < u 1 := by omega); simp [arithN, h']]
      exact did_more ho hH (sub_good F V stk s1 vb u w0 hRun ho1 hv1 hvM hl h) hV
    · rw [show arithN 7 (u 0) (u 1) = none from by (have h' : u 0 < u 1 := by omega); simp [arithN, h']]
      exact did_err (by decide) ho hH (sub_bad F V stk s1 vb u w0 hRun ho1 hv1 hvM hl h)
  · rw [show doN F.cl F.code F.rep 8 (cAt F.code (V.p + 1)) V.p V.left stk u asks = (match arithN 8 (u 0) (u 1) with | none => .err 104 asks | some r => .more (stk ++ [r]) V.left (V.p + sizeN F.code V.p) asks) from rfl]
    by_cases h : u 0 * u 1 < 115792089237316195423570985008687907853269984665640564039457584007913129639936
    · rw [show arithN 8 (u 0) (u 1) = some (u 0 * u 1) from if_pos h]
      exact did_more ho hH (mul_good F V stk s1 vb u w0 hRun ho1 hv1 hvM hl h) hV
    · rw [show arithN 8 (u 0) (u 1) = none from if_neg h]
      exact did_err (by decide) ho hH (mul_bad F V stk s1 vb u w0 hRun ho1 hv1 hvM hl h)
  · rw [show doN F.cl F.code F.rep 9 (cAt F.code (V.p + 1)) V.p V.left stk u asks = (match arithN 9 (u 0) (u 1) with | none => .err 104 asks | some r => .more (stk ++ [r]) V.left (V.p + sizeN F.code V.p) asks) from rfl]
    by_cases h : u 1 = 0
    · rw [show arithN 9 (u 0) (u 1) = none from if_pos h]
      exact did_err (by decide) ho hH (div_bad F V stk s1 vb u w0 hRun ho1 hv1 hvM hl h)
    · rw [show arithN 9 (u 0) (u 1) = some (u 0 / u 1) from if_neg h]
      exact did_more ho hH (div_good F V stk s1 vb u w0 hRun ho1 hv1 hvM hl h) hV
  · rw [show doN F.cl F.code F.rep 10 (cAt F.code (V.p + 1)) V.p V.left stk u asks = (match arithN 10 (u 0) (u 1) with | none => .err 104 asks | some r => .more (stk ++ [r]) V.left (V.p + sizeN F.code V.p) asks) from rfl]
    by_cases h : u 1 = 0
    · rw [show arithN 10 (u 0) (u 1) = none from if_pos h]
      exact did_err (by decide) ho hH (mod_bad F V stk s1 vb u w0 hRun ho1 hv1 hvM hl h)
    · rw [show arithN 10 (u 0) (u 1) = some (u 0 % u 1) from if_neg h]
      exact did_more ho hH (mod_good F V stk s1 vb u w0 hRun ho1 hv1 hvM hl h) hV
  · exact did_more ho hH (less_op F V stk s1 vb u w0 hRun ho1 hv1 hvM hl) hV
  · exact did_more ho hH (same_op F V stk s1 vb u w0 hRun ho1 hv1 hvM hl) hV
  · exact did_more ho hH (not_op F V stk s1 vb u w0 hRun ho1 hv1 hvM hl) hV
  · exact did_more ho hH (jump_op F V stk s1 (.slice (some ⟨vb, 0, none⟩) 0 3) w0 hRun ho1 hK hC hl (op3 (by omega))) rfl
  · rw [show doN F.cl F.code F.rep 15 (cAt F.code (V.p + 1)) V.p V.left stk u asks = .more stk V.left (if u 0 ≠ 0 then targetN F.code V.p else V.p + sizeN F.code V.p) asks from rfl]
    by_cases h : u 0 = 0
    · rw [if_neg (by simp [h])]
      exact did_more ho hH (when_stay F V stk s1 vb u w0 hRun ho1 hv1 hvM hl hK hC (op3 (by omega)) h) hV
    · rw [if_pos h]
      exact did_more ho hH (when_go F V stk s1 vb u w0 hRun ho1 hv1 hvM hl hK hC (op3 (by omega)) h) rfl
  · exact did_more ho hH (arg_op F V stk s1 (.slice (some ⟨vb, 0, none⟩) 0 3) w0 hRun ho1 hK hA hl hC (op2 (by omega))) hV
  · exact did_more ho hH (args_op F V stk s1 (.slice (some ⟨vb, 0, none⟩) 0 3) w0 hRun ho1 hK hA hl) hV
  · exact did_more ho hH (caller_op F V stk s1 (.slice (some ⟨vb, 0, none⟩) 0 3) w0 hRun ho1 hK hA hl) hV
  · exact did_more ho hH (self_op F V stk s1 (.slice (some ⟨vb, 0, none⟩) 0 3) w0 hRun ho1 hK hA hl) hV
  · exact did_more ho hH (token_op F V stk s1 (.slice (some ⟨vb, 0, none⟩) 0 3) w0 hRun ho1 hK hA hl) hV
  · exact did_more ho hH (amount_op F V stk s1 (.slice (some ⟨vb, 0, none⟩) 0 3) w0 hRun ho1 hK hA hl) hV
  · exact did_more ho hH (time_op F V stk s1 (.slice (some ⟨vb, 0, none⟩) 0 3) w0 hRun ho1 hK hA hl) hV
  · exact did_more ho hH (gas_op F V stk s1 (.slice (some ⟨vb, 0, none⟩) 0 3) w0 hRun ho1 hK hA hl (by omega)) hV
  · rw [show doN F.cl F.code F.rep 24 (cAt F.code (V.p + 1)) V.p V.left stk u asks = (if (F.rep asks.length).2 ≠ 0 then .err (F.rep asks.length).2 (asks ++ [⟨1, u 0, 0, 0, 0⟩]) else .more (stk ++ [(F.rep asks.length).1]) V.left (V.p + sizeN F.code V.p) (asks ++ [⟨1, u 0, 0, 0, 0⟩])) from rfl]
    by_cases h : (F.rep asks.length).2 = 0
    · rw [if_neg (by simp [h])]
      exact did_H hn (load_ok F V stk asks s1 s2 vb u w0 hNX hRun hH ho hv hvM hD.reps hD.inner hl hla h)
    · rw [if_pos h]
      exact did_E h (load_err F V stk asks s1 s2 vb u w0 hNX hRun hH ho hv hvM hD.reps hD.inner hl hla h)
  · rw [show doN F.cl F.code F.rep 25 (cAt F.code (V.p + 1)) V.p V.left stk u asks = (if (F.rep asks.length).2 ≠ 0 then .err (F.rep asks.length).2 (asks ++ [⟨2, u 0, u 1, 0, 0⟩]) else .more stk V.left (V.p + sizeN F.code V.p) (asks ++ [⟨2, u 0, u 1, 0, 0⟩])) from rfl]
    by_cases h : (F.rep asks.length).2 = 0
    · rw [if_neg (by simp [h])]
      exact did_H hn (save_ok F V stk asks s1 s2 vb u w0 hNX hRun hH ho hv hvM hD.reps hD.inner hl hla h)
    · rw [if_pos h]
      exact did_E h (save_err F V stk asks s1 s2 vb u w0 hNX hRun hH ho hv hvM hD.reps hD.inner hl hla h)
  · by_cases ht : u 0 < 64
    · rw [show doN F.cl F.code F.rep 26 (cAt F.code (V.p + 1)) V.p V.left stk u asks = (if (F.rep asks.length).2 ≠ 0 then .err (F.rep asks.length).2 (asks ++ [⟨3, 0, 0, u 0, u 1⟩]) else .more (stk ++ [(F.rep asks.length).1]) V.left (V.p + sizeN F.code V.p) (asks ++ [⟨3, 0, 0, u 0, u 1⟩])) from by
        have h64 : ¬ 64 ≤ u 0 := by omega
        simp [doN, askN, h64]]
      by_cases h : (F.rep asks.length).2 = 0
      · rw [if_neg (by simp [h])]
        exact did_H hn (have_ok F V stk asks s1 s2 vb u w0 hNX hRun hH ho hv hvM hD.reps hD.inner hl hla ht h)
      · rw [if_pos h]
        exact did_E h (have_err F V stk asks s1 s2 vb u w0 hNX hRun hH ho hv hvM hD.reps hD.inner hl hla ht h)
    · rw [show doN F.cl F.code F.rep 26 (cAt F.code (V.p + 1)) V.p V.left stk u asks = .err 104 asks from by
        have h64 : 64 ≤ u 0 := by omega
        simp [doN, askN, h64]]
      exact (have_tok F V stk asks s1 s2 vb u w0 hNX hRun hH ho hv hvM hD.reps hD.inner hl hla ht).mono fun v s ⟨h1, h2⟩ => ⟨h1, by decide, s1, s2, h2, hH⟩
  · by_cases ht : u 0 < 64
    · rw [show doN F.cl F.code F.rep 27 (cAt F.code (V.p + 1)) V.p V.left stk u asks = (if (F.rep asks.length).2 ≠ 0 then .err (F.rep asks.length).2 (asks ++ [⟨4, u 2, 0, u 0, u 1⟩]) else .more stk V.left (V.p + sizeN F.code V.p) (asks ++ [⟨4, u 2, 0, u 0, u 1⟩])) from by
        have h64 : ¬ 64 ≤ u 0 := by omega
        simp [doN, askN, h64]]
      by_cases h : (F.rep asks.length).2 = 0
      · rw [if_neg (by simp [h])]
        exact did_H hn (send_ok F V stk asks s1 s2 vb u w0 hNX hRun hH ho hv hvM hD.reps hD.inner hl hla ht h)
      · rw [if_pos h]
        exact did_E h (send_err F V stk asks s1 s2 vb u w0 hNX hRun hH ho hv hvM hD.reps hD.inner hl hla ht h)
    · rw [show doN F.cl F.code F.rep 27 (cAt F.code (V.p + 1)) V.p V.left stk u asks = .err 104 asks from by
        have h64 : 64 ≤ u 0 := by omega
        simp [doN, askN, h64]]
      exact (send_tok F V stk asks s1 s2 vb u w0 hNX hRun hH ho hv hvM hD.reps hD.inner hl hla ht).mono fun v s ⟨h1, h2⟩ => ⟨h1, by decide, s1, s2, h2, hH⟩
end Go.Proofs.Ytlapmbkfmbkdoaa
