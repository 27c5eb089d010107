/- Texts Di Ec Dj Dk in one. -/
import Derived.Test.YtlapmbkfmbkdoaaDh
/- The calls of on, operand, reckoned, count, who. -/
namespace Go.Proofs.Ytlapmbkfmbkdoaa
open Go Go.Fw Go.RowKit
attribute [local irreducible] Go.Oper.wp Go.Code.wp Go.wpList Go.Fw.WL Go.Calls
theorem own_push {s : Seg} {A : Option Addr} {c x : Nat} {b : List Nat} (h : OwnS s A (b.length + 1) c (b.flatMap wc ++ wc x) 31 4) : OwnS s A (b.length + 1) c ((b ++ [x]).flatMap wc) 31 4 := by
  rw [List.flatMap_append, List.flatMap_singleton]; exact h

theorem on_calls (F : Fx) (V : Vr) (stk : List Nat) (s : Seg) (x : Nat) (w0 : World) (hRun : RunS F V stk s) (ho : Own w0 s) (hl : stk.length ≤ 64) : Ret Try.prog 79 [.pointer (some ⟨F.rb, 0, none⟩), wv x] w0 (s.map (·.1)) (fun v s' => v = .int .i64 0 ∧ RunS F V (stk ++ [x]) s') := by
  refine fn_start Try.func79 rfl Try.ntmps79 rfl [(0, .pointer (some ⟨F.rb, 0, none⟩)), (1, wv x)] ⟨rfl, rfl, trivial⟩ ?_
  intro Q a hP hF hR hN
  have hS := St.enter ho
  obtain ⟨A, c, sg, hs, hO⟩ := hRun; have hS := hS.flat (bs' := [[(F.rb, Cel (rcells F (.slice A stk.length c) V) 81)], sg]) (by simp [hs])
  refine wp_seq_k fun K1 hK1 => ?_
  refine wp_region_lit ?_
  refine so (wn rfl) (O.box rfl rfl hF (hF.ev rfl) rfl hS fun b3 a w hF hS => ?_)
  refine sv' hF (wn rfl) rfl rfl (R.assign (hF.ev rfl)) fun a hF => ?_
  refine s0 ?_
  refine then_n (hK1 _ _ ?_)
  refine wp_seq_k fun K2 hK2 => ?_
  refine wp_drawG hS (hS.sel [0, 1] rfl rfl) [(0, 0), (1, 0), (2, 0), (3, 0), (4, 1), (5, 1), (6, 2), (7, 2), (8, 0), (9, 0), (10, 3)] mix (by kernel_rfl) (hP.then) fun w hS hD => ?_
  refine dq hF rfl (wn rfl) rfl rfl (fun w => R.move (hF.ev rfl)) fun a hF => ?_
  refine dq hF rfl (wn rfl) rfl rfl (fun w => R.move (hF.ev rfl)) fun a hF => ?_
  refine dq hF rfl (wn rfl) rfl rfl (fun w => R.nilCheck (hF.ev rfl)) fun a hF => ?_
  refine dq hF rfl (wn rfl) rfl rfl (fun w => R.fieldAddr (k := 50) Try.underlying81 rfl nz32 (hF.ev rfl) rfl) fun a hF => ?_
  refine dr hF rfl (wn rfl) rfl rfl hD (fun w hD => R.load one32 (hF.ev rfl) hD (.t .h) (rfl)) fun a hF => ?_
  refine dr hF rfl (wn rfl) rfl rfl hD (fun w hD => R.loadW agg31 (hF.ev rfl) hD .h sz31 (rfl)) fun a hF => ?_
  refine dl rfl (wn rfl) (O.buildSlice (l := [_, _, _, _]) rfl rfl hF Try.underlying32 inf31 rfl rfl (hF.evp rfl) (by decide) rfl hS fun b11 a w hF hS => ⟨fun hD => hS.sel [1, 2] rfl rfl, ?_⟩)
  have hD := hS.sel [1, 2] rfl rfl
  refine dl rfl (wn rfl) (O.append rfl rfl hF Try.underlying32 inf31 rfl rfl (by decide) (hF.ev rfl) (hF.ev rfl) hS hO (fun _ => (.t (.t (.t .h)))) (Rd.own0 hS .h) (rfl) (by simp [Value.oneCell']) (by unfold maxLen; omega) (by omega) fun A12 c12 s12 a w hO12 hF hS => ⟨fun hD => hS.sel [1, 2] rfl rfl, ?_⟩)
  have hD := hS.sel [1, 2] rfl rfl
  refine dq hF rfl (wn rfl) rfl rfl (fun w => R.nilCheck (hF.ev rfl)) fun a hF => ?_
  refine dq hF rfl (wn rfl) rfl rfl (fun w => R.fieldAddr (k := 50) Try.underlying81 rfl nz32 (hF.ev rfl) rfl) fun a hF => ?_
  refine dw rfl (wn rfl) (O.store sz32 (hF.ev rfl) (hF.ev rfl) rfl rfl hS (.t (.t .h)) (show List.set _ _ _ = rcells F (.slice A12 (stk.length + 1) c12) V from rfl) (by first | decide | omega | (show _ < 59; decide) | (show _ < 3; decide) | simp) fun w hS => ?_)
  refine d0 ?_
  refine then_n (hK2 _ _ ?_)
  refine wp_seq_k fun K3 hK3 => ?_
  refine wp_region_lit ?_
  refine sv' hF (wn rfl) rfl rfl (R.assign (hF.ev rfl)) fun a hF => ?_
  refine s0 ?_
  refine then_n (hK3 _ _ ?_)
  refine wp_ret (hR _ _ _ _ _ hF (run_results Try.results79 (.t hF rfl (.nil))) ?_)
  obtain ⟨s', h1, h2⟩ := RunS.close (F := F) (V := V) (stk := (stk ++ [x])) (hS.sel [2, 3] rfl rfl) (by simp) (own_push hO12)
  exact ⟨_, s', rfl, ⟨rfl, h1⟩, h2⟩

end Go.Proofs.Ytlapmbkfmbkdoaa

/- Slices of arrays from a place on, slices between two places, copy into the middle of a block. No condition beyond each lemma's own. -/
namespace Go.Fw
open Go.RowKit Go.Proofs.Ytlapmbkfmbkdoaa
section
variable {P : Program} {ops : Array Oper} {Q : Exit → Act → World → Prop} {a : Act} {w w' w0 : World} {env : Env} {d N : Nat} {K : Act → World → Prop}
variable {ρ : Operand → Value} {dst : Option Tmp} {ty : TypeId} {pos : String} {af : Array Edge} {g : Option (Nat × Bool)} {x y z : Operand} {T E T1 T2 : TypeId}
variable {ks : List Nat} {bs bs' : List Seg} {b n sz c m c2 o p q : Nat} {l l' cs : List Value} {B A : Option Addr} {k k2 : IntKind}
theorem R.sliceArrLo (hT : P.underlying T = some (.array n E)) (hs : szT P E sz) (hx : ρ x = .pointer (some ⟨b, 0, none⟩)) (hy : ρ y = .int k ((p : Nat) : Int)) (h1 : p < n) :
    (execOp ρ ⟨dst, .slice T x (some y) none none, ty, pos, af, g⟩).run P w = .ok (.value (.slice (some ⟨b, p * sz, none⟩) (n - p) (n - p))) w := by
  have h0 : (0 : Int) ≤ (p : Int) := Int.natCast_nonneg p
  have h2 : (p : Int) ≤ (n : Int) := by omega
  have hne : ¬ n = p := by omega
  have e : (if n = p then (⟨b, 0, none⟩ : Addr) else (⟨b, 0, none⟩ : Addr).add (p * sz)) = ⟨b, p * sz, none⟩ := by rw [if_neg hne, addr_add, Nat.zero_add]
  simp only [execOp, hx, hy, Option.map_none, Option.map_some, Instr.sliceAt, Instr.sureAddr, run_underlying hT, Instr.sliceBounds, Instr.sliceBound, asIntOf, run_sizeOf' hs, h0, h2, and_self, if_true,
    Sem.run_bind, Sem.run_pure, Result.andThen_ok, Int.toNat_natCast, e]
theorem R.sliceMid (hT : P.underlying T = some (.slice E)) (hx : ρ x = .slice A n c) (hy : ρ y = .int k ((p : Nat) : Int)) (hz : ρ z = .int k2 ((q : Nat) : Int)) (h1 : p ≤ q) (h2 : q ≤ c) (hs : szT P E sz) :
    (execOp ρ ⟨dst, .slice T x (some y) (some z) none, ty, pos, af, g⟩).run P w = .ok (.value (.slice (if c = p then A else A.map (·.add (p * sz))) (q - p) (c - p))) w := by
  have h0 : (0 : Int) ≤ (p : Int) := Int.natCast_nonneg p
  have h3 : (0 : Int) ≤ (q : Int) := Int.natCast_nonneg q
  have h4 : (p : Int) ≤ (q : Int) := by omega
  have h5 : (q : Int) ≤ (c : Int) := by omega
  simp only [execOp, hx, hy, hz, Option.map_none, Option.map_some, Instr.sliceAt, Instr.slice, run_underlying hT, Instr.sliceBounds, Instr.sliceBound, asIntOf, run_sizeOf' hs, h0, h3, h4, h5, and_self, if_true,
    Sem.run_bind, Sem.run_pure, Result.andThen_ok, Int.toNat_natCast, Option.isSome_none, Bool.false_eq_true, if_false]
/-- copy into the middle of a known block -/
theorem O.copyAt (hd : dst = some d) (hn : Nat.blt d N = true) (hF : Fr N env a) (hT : P.underlying T1 = some (.slice E)) (hs : szT P E sz) (hx : a.eval x = .slice (some ⟨b, o, none⟩) n c) (hy : a.eval y = .slice B m c2)
    (hS : St w0 ks bs w) (hB : Rd w B cs) (hm : cs.length = m * sz) (hp : 0 < sz) (hv : ∀ v ∈ cs, v.oneCell' = true) {E2 : TypeId} (hu : UpB bs b (Cel l E2) (Cel l' E2) bs') (hl : spl l o (cs.take (min m n * sz)) = l') (hlt : o + min m n * sz ≤ l.length)
    (h : ∀ a' w', Fr N ((d, .int .i64 ((min m n : Nat) : Int)) :: env) a' → St w0 ks bs' w' → K a' w') :
    Oper.wp P ⟨dst, .call ⟨.builtin .copy, [x, y].toArray, [T1, T2].toArray⟩, ty, pos, af, g⟩ a w K Q := by
  subst hd
  have hb := hS.get hu.has
  have hlen : (cs.take (min m n * sz)).length = min m n * sz := by
    rw [List.length_take, hm]
    have : min m n * sz ≤ m * sz := Nat.mul_le_mul_right _ (Nat.min_le_left _ _)
    omega
  have hst := run_storeCells_Cel (P := P) (cs.take (min m n * sz)) o 0 w l hb (by omega) (fun v hv' => hv v (List.take_subset _ _ hv'))
  rw [Nat.add_zero, hl] at hst
  have hmin : Nat.min m n = min m n := rfl
  have key : (Builtin.firstCells sz (min m n) (.slice B m c2)).run P w = .ok (cs.take (min m n * sz)).toArray w := by
    cases B with
    | none =>
      have h0 : cs = [] := by
        cases cs with
        | nil => rfl
        | cons v r => obtain ⟨_, h1, _⟩ := hB 0 v rfl; simp at h1
      subst h0
      have hm0 : m = 0 := by
        rcases Nat.eq_zero_or_pos m with h | h
        · exact h
        · have : 0 < m * sz := Nat.mul_pos h hp
          simp at hm; omega
      simp [Builtin.firstCells, hm0]
    | some s =>
      have hld := run_loadCells_list (P := P) (w := w) s (cs.take (min m n * sz)) (fun j v hj => by
        obtain ⟨a', h1, h2⟩ := hB j v (by rw [List.getElem?_take] at hj; split at hj; exact hj; simp at hj)
        simp only [Option.some.injEq] at h1
        rw [h1]; exact h2)
      rw [hlen] at hld
      simp [Builtin.firstCells, hld]
  unfold Oper.wp
  have : (execOp a.eval ⟨some d, .call ⟨.builtin .copy, [x, y].toArray, [T1, T2].toArray⟩, ty, pos, af, g⟩).run P w = .ok (.value (.int .i64 ((min m n : Nat) : Int))) (World.setB w b (Cel l' E2)) := by
    simp [execOp, resolve, invoke, builtin, Builtin.copy_, hx, hy, run_underlying hT, Builtin.lenOf, run_sizeOf' hs, goInt, Sem.run_bind, Result.andThen_ok, hmin, key, hst]
  rw [this, Oper.upon_value]
  exact h _ _ (hF.put hn _) (hS.setB hu)
end
/-! what an instruction took -/
def vc (v : Nat → Nat) : List Value := wc (v 0) ++ wc (v 1) ++ wc (v 2)
theorem v0_at {v : Nat → Nat} {off : Nat} (ho : off = 0) : ∀ j u, (wc (v 0))[j]? = some u → (vc v)[off + j]? = some u := by
  subst ho
  intro j u hj
  rw [Nat.zero_add, vc, List.append_assoc, List.getElem?_append_left]
  · exact hj
  · rcases Nat.lt_or_ge j (wc (v 0)).length with h | h
    · exact h
    · rw [List.getElem?_eq_none h] at hj; simp at hj
theorem v1_at {v : Nat → Nat} {off : Nat} (ho : off = 4) : ∀ j u, (wc (v 1))[j]? = some u → (vc v)[off + j]? = some u := by
  subst ho
  intro j u hj
  rw [vc, List.append_assoc, List.getElem?_append_right (by simp), List.getElem?_append_left]
  · simpa using hj
  · rcases Nat.lt_or_ge j (wc (v 1)).length with h | h
    · simpa using h
    · rw [List.getElem?_eq_none h] at hj; simp at hj
theorem v2_at {v : Nat → Nat} {off : Nat} (ho : off = 8) : ∀ j u, (wc (v 2))[j]? = some u → (vc v)[off + j]? = some u := by
  subst ho
  intro j u hj
  rw [vc, List.getElem?_append_right (by simp)]
  simpa using hj
/-! bytes -/
theorem byts_takeK (l : List Nat) (k : Nat) : (byts l).take k = byts (l.take k) := by simp [byts, List.map_take]
theorem byts_dropK (l : List Nat) (k : Nat) : (byts l).drop k = byts (l.drop k) := by simp [byts, List.map_drop]
theorem byts_app (l r : List Nat) : byts (l ++ r) = byts l ++ byts r := by simp [byts]
theorem adc_byts (f : Nat → Nat) : adc f = byts ((List.range 20).map f) := rfl
theorem numB_be (l : List Nat) : numB l = be l := by
  unfold numB be
  congr 1
  funext a d; omega
theorem be_zeros (k : Nat) (l : List Nat) : be (List.replicate k 0 ++ l) = be l := by
  rw [be_append]
  have : be (List.replicate k 0) = 0 := by
    induction k with
    | zero => rfl
    | succ k ih => rw [List.replicate_succ', be_snoc, ih]
  rw [this]; omega
/-- shorter bytes at the end of 32 -/
theorem spl_end {l : List Nat} (h : l.length ≤ 32) : spl (byts (List.replicate 32 0)) (32 - l.length) (byts l) = byts (List.replicate (32 - l.length) 0 ++ l) := by
  rw [spl, byts_takeK, byts_dropK, length_byts, ← byts_app, ← byts_app]
  congr 1
  rw [List.take_replicate, List.drop_replicate, Nat.min_eq_left (by omega), show 32 - (32 - l.length + l.length) = 0 by omega]
  simp
theorem bits32 : byts (List.replicate 32 0) = zeros [.int .u8 0] 32 := rfl
end Go.Fw

/- The calls of operand, truth, tokenOf, address. -/
namespace Go.Proofs.Ytlapmbkfmbkdoaa
open Go Go.Fw Go.RowKit
attribute [local irreducible] Go.Oper.wp Go.Code.wp Go.wpList Go.Fw.WL Go.Calls
theorem ze101b : zeT Try.prog 101 (.agg (byts (List.replicate 32 0)).toArray) := by unfold zeT; kernel_rfl
theorem adc_wb {n : Nat} : ∀ j v, (adc (adF n))[j]? = some v → (byts (wb n 32))[12 + j]? = some v := by
  intro j v hj
  rw [adc_byts] at hj
  by_cases h : j < 20
  · have e1 : (byts ((List.range 20).map (adF n)))[j]? = some (.int .u8 ((adF n j : Nat) : Int)) := by simp [byts, h]
    rw [e1] at hj
    have e2 : (byts (wb n 32))[12 + j]? = some (.int .u8 ((by8 n (31 - (12 + j)) : Nat) : Int)) := by
      rw [byts, List.getElem?_map, wb, List.getElem?_map, List.getElem?_range (by omega)]; rfl
    rw [e2, ← hj]
    congr 3
    unfold by8 adF
    rw [show 31 - (12 + j) = 19 - j by omega]
  · rw [List.getElem?_eq_none (by simp [byts]; omega)] at hj; simp at hj
theorem spl_who (f : Nat → Nat) : spl (byts (List.replicate 32 0)) (12 * 1) ((adc f).take (min 20 (32 - 12) * 1)) = byts (List.replicate 12 0 ++ (List.range 20).map f) := by
  have := spl_end (l := (List.range 20).map f) (by simp)
  rw [List.length_map, List.length_range] at this
  exact this
theorem one_adc (f : Nat → Nat) : ∀ v ∈ adc f, v.oneCell' = true := by
  intro v hv
  rw [adc_byts, byts] at hv
  obtain ⟨_, _, rfl⟩ := List.mem_map.1 hv
  rfl
theorem byt_pad {l : List Nat} (h : Byt l) (k : Nat) : Byt (List.replicate k 0 ++ l) := by
  intro d hd
  rcases List.mem_append.1 hd with h1 | h1
  · have := (List.mem_replicate.1 h1).2; omega
  · exact h _ h1
theorem byt_range {f : Nat → Nat} (h : ∀ i, f i < 256) (k : Nat) : Byt ((List.range k).map f) := by
  intro d hd
  obtain ⟨i, _, rfl⟩ := List.mem_map.1 hd
  exact h i
theorem read32_calls {b : Nat} (l : List Nat) (k : Nat) (w : World) (hA : Rd w (some ⟨b, 0, none⟩) (byts (List.replicate k 0 ++ l))) (hk : k + l.length = 32) (hB : Byt l) : Ret Try.prog 78 [.slice (some ⟨b, 0, none⟩) 32 32] w [] (fun v s => v = .tuple #[wv (numB l), .int .i64 0] ∧ s = []) := by
  have hl : (List.replicate k 0 ++ l).length = 32 := by simp [hk]
  have := read_calls (some ⟨b, 0, none⟩) 32 32 (List.replicate k 0 ++ l) w hA hl (byt_pad hB k)
  rw [readW, readN, if_pos hl, if_pos hl, be_zeros, ← numB_be] at this
  exact this
theorem numB_lt32 {l : List Nat} (h : l.length ≤ 32) (hB : Byt l) : numB l < 115792089237316195423570985008687907853269984665640564039457584007913129639936 := by
  have h1 := numB_lt l hB
  have h2 : (256 : Nat) ^ l.length ≤ 256 ^ 32 := Nat.pow_le_pow_right (by decide) h
  have h3 : (256 : Nat) ^ 32 = 115792089237316195423570985008687907853269984665640564039457584007913129639936 := by decide
  omega
theorem tok_dg {n : Nat} (h : n < 64) : dg n 0 = n := by rw [dg0]; omega
theorem cmp64 {n : Nat} : 0 ≤ cmpN n 64 ↔ ¬ n < 64 := by
  unfold cmpN; split
  · omega
  split <;> omega

theorem operand_calls (F : Fx) (V : Vr) (sv : Value) (w0 : World) (hr : Rd w0 (some ⟨F.rb, 0, none⟩) (rcells F sv V)) (hC : Rd w0 F.cA (byts F.code)) (hB : Byt F.code) (hn : F.code.length ≤ 1024) (hp : V.p + 1 < F.code.length) : Ret Try.prog 77 [.pointer (some ⟨F.rb, 0, none⟩)] w0 [] (fun v s => v = .int .i64 ((cAt F.code (V.p + 1) : Nat) : Int) ∧ s = []) := by
  refine fn_start Try.func77 rfl Try.ntmps77 rfl [(0, .pointer (some ⟨F.rb, 0, none⟩))] ⟨rfl, trivial⟩ ?_
  intro Q a hP hF hR hN
  have hS := St.start w0
  have hb1 := cAt_lt hB (V.p + 1)
  refine wp_seq_k fun K1 hK1 => ?_
  refine wp_region_lit ?_
  refine sv' hF (wn rfl) rfl rfl (R.assign (hF.ev rfl)) fun a hF => ?_
  refine s0 ?_
  refine then_n (hK1 _ _ ?_)
  refine wp_seq_k fun K2 hK2 => ?_
  refine wp_drawS hS [(0, 0), (1, 0), (2, 0), (3, 1), (4, 0), (5, 0), (6, 0), (7, 1), (8, 0), (9, 0), (10, 1), (11, 0), (12, 0)] mix (by kernel_rfl) (hP.then) fun w hS => ?_
  have hD := hS
  refine dq hF rfl (wn rfl) rfl rfl (fun w => R.move (hF.ev rfl)) fun a hF => ?_
  refine dq hF rfl (wn rfl) rfl rfl (fun w => R.nilCheck (hF.ev rfl)) fun a hF => ?_
  refine dq hF rfl (wn rfl) rfl rfl (fun w => R.fieldAddr (k := 0) Try.underlying81 rfl nz23 (hF.ev rfl) rfl) fun a hF => ?_
  refine dr hF rfl (wn rfl) rfl rfl hD (fun w hD => R.loadO (A := some ⟨F.rb, 0, none⟩) (k := 0) one23 (hF.ev rfl) (hr.old hD) rfl) fun a hF => ?_
  refine dq hF rfl (wn rfl) rfl rfl (fun w => R.move (hF.ev rfl)) fun a hF => ?_
  refine dq hF rfl (wn rfl) rfl rfl (fun w => R.nilCheck (hF.ev rfl)) fun a hF => ?_
  refine dq hF rfl (wn rfl) rfl rfl (fun w => R.fieldAddr (k := 52) Try.underlying81 rfl nz3 (hF.ev rfl) rfl) fun a hF => ?_
  refine dr hF rfl (wn rfl) rfl rfl hD (fun w hD => R.loadO (A := some ⟨F.rb, 0, none⟩) (k := 52) one3 (hF.ev rfl) (hr.old hD) rfl) fun a hF => ?_
  refine dq hF rfl (wn rfl) rfl rfl (fun w => R.addI (hF.ev rfl) (hF.ev rfl) (by omega)) fun a hF => ?_
  refine dq hF rfl (wn rfl) rfl rfl (fun w => R.indexO Try.underlying23 sz5 (hF.ev rfl) (Rd.ne hC (by rw [length_byts]; omega)) (hF.ev rfl) (by omega) (by omega)) fun a hF => ?_
  refine dr hF rfl (wn rfl) rfl rfl hD (fun w hD => R.loadO one5 (hF.ev rfl) (hC.old hD) (cb_at (i := V.p + 1) (by omega) (by omega))) fun a hF => ?_
  refine dq hF rfl (wn rfl) rfl rfl (fun w => R.convI Try.underlying5 Try.underlying3 (hF.ev rfl) (by omega)) fun a hF => ?_
  refine dq hF rfl (wn rfl) rfl rfl (fun w => R.assign (hF.ev rfl)) fun a hF => ?_
  refine d0 ?_
  refine then_n (hK2 _ _ ?_)
  refine wp_ret (hR _ _ _ _ _ hF (run_results Try.results77 (.t hF rfl (.nil))) ?_)
  exact ⟨_, [], rfl, ⟨rfl, rfl⟩, hS.none⟩

theorem truth_calls (b : Bool) (w0 : World) : Ret Try.prog 85 [.bool b] w0 [] (fun v s => v = wv (bit1 b) ∧ s = []) := by
  refine fn_start Try.func85 rfl Try.ntmps85 rfl [(0, .bool b)] ⟨rfl, trivial⟩ ?_
  intro Q a hP hF hR hN
  have hS := St.start w0
  refine wp_seq_k fun K1 hK1 => ?_
  refine wp_region_lit ?_
  refine so (wn rfl) (O.alloc rfl rfl hF ze31 rfl hS fun b2 a w hF hS => ?_)
  refine s0 ?_
  refine then_n (hK1 _ _ ?_)
  refine wp_seq_k fun K2 hK2 => ?_
  refine wp_seq_k fun K3 hK3 => ?_
  refine wp_region_lit ?_
  refine sv' hF (wn rfl) rfl rfl (R.move (hF.ev rfl)) fun a hF => ?_
  refine s0 ?_
  refine then_n (hK3 _ _ ?_)
  refine cS hF rfl (fun c1 => ?_) (fun c1 => ?_)
  ·
    refine wp_seq_k fun K4 hK4 => ?_
    refine wp_region_lit ?_
    refine so (wn rfl) (O.call rfl rfl hF ent97 (hF.evs rfl) hS (of_calls 1 _ (by decide)) fun v s4 a w hR hF hS => ?_)
    obtain ⟨rfl, rfl⟩ := hR
    refine so (wn rfl) (O.storeW sz31 (hF.ev rfl) (hF.ev rfl) (rfl) rfl (by simp [Value.oneCell']) hS (.t .h) (rfl) fun w hS => ?_)
    refine s0 ?_
    refine then_n (hK4 _ _ ?_)
    refine wp_ret (then_r (hR _ _ _ _ _ hF (run_results Try.results85 (.cw hF rfl agg31 hS (.t .h) sz31 (rfl) (.nil))) ?_))
    exact ⟨_, [], rfl, ⟨by rw [c1]; rfl, rfl⟩, hS.none⟩
  ·
    refine wp_skip ?_
    refine then_n (hK2 _ _ ?_)
    refine wp_seq_k fun K5 hK5 => ?_
    refine wp_region_lit ?_
    refine sv' hF (wn rfl) rfl rfl (R.buildArr (l := [_, _, _, _]) Try.underlying31 ze31 sz29 (hF.evp rfl) rfl) fun a hF => ?_
    refine so (wn rfl) (O.storeW sz31 (hF.ev rfl) (hF.ev rfl) (rfl) rfl (by simp [Value.oneCell']) hS .h (rfl) fun w hS => ?_)
    refine s0 ?_
    refine then_n (hK5 _ _ ?_)
    refine wp_ret (hR _ _ _ _ _ hF (run_results Try.results85 (.cw hF rfl agg31 hS .h sz31 (rfl) (.nil))) ?_)
    exact ⟨_, [], rfl, ⟨by rw [c1]; rfl, rfl⟩, hS.none⟩

theorem tokenOf_calls (n : Nat) (w0 : World) (hn : n < 115792089237316195423570985008687907853269984665640564039457584007913129639936) : Ret Try.prog 90 [wv n] w0 [] (fun v s => v = (if n < 64 then .tuple #[.int .i64 ((n : Nat) : Int), .bool true] else .tuple #[.int .i64 0, .bool false]) ∧ s = []) := by
  refine fn_start Try.func90 rfl Try.ntmps90 rfl [(0, wv n)] ⟨rfl, trivial⟩ ?_
  intro Q a hP hF hR hN
  have hS := St.start w0
  refine wp_seq_k fun K1 hK1 => ?_
  refine wp_region_lit ?_
  refine so (wn rfl) (O.box rfl rfl hF (hF.ev rfl) rfl hS fun b1 a w hF hS => ?_)
  refine sv' hF (wn rfl) rfl rfl (R.assign (hF.ev rfl)) fun a hF => ?_
  refine sv' hF (wn rfl) rfl rfl (R.assign (hF.ev rfl)) fun a hF => ?_
  refine s0 ?_
  refine then_n (hK1 _ _ ?_)
  refine wp_seq_k fun K2 hK2 => ?_
  refine wp_seq_k fun K3 hK3 => ?_
  refine wp_drawG hS (hS.sel [0] rfl rfl) [(0, 1), (1, 2), (2, 2), (3, 0)] mix (by kernel_rfl) (hP.then.then) fun w hS hD => ?_
  refine dr hF rfl (wn rfl) rfl rfl hD (fun w hD => R.loadW agg31 (hF.ev rfl) hD .h sz31 (rfl)) fun a hF => ?_
  refine dl rfl (wn rfl) (O.call rfl rfl hF ent97 (hF.evs rfl) hS (of_calls 64 _ (by decide)) fun v s5 a w hR hF hS => ⟨fun hD => hS.sel [1] rfl rfl, ?_⟩)
  obtain ⟨rfl, rfl⟩ := hR
  have hD := hS.sel [1] rfl rfl
  refine dl rfl (wn rfl) (O.call rfl rfl hF ent86 (hF.evs rfl) hS (cmp_calls n 64 _ hn (by decide)) fun v s6 a w hR hF hS => ⟨fun hD => hS.sel [2] rfl rfl, ?_⟩)
  obtain ⟨rfl, rfl⟩ := hR
  have hD := hS.sel [2] rfl rfl
  refine dq hF rfl (wn rfl) rfl rfl (fun w => R.geq (hF.ev rfl) (hF.ev rfl)) fun a hF => ?_
  refine d0 ?_
  refine then_n (hK3 _ _ ?_)
  refine cD hF rfl (fun c1 => ?_) (fun c1 => ?_)
  ·
    have h6 : ¬ n < 64 := cmp64.1 c1
    refine wp_seq_k fun K4 hK4 => ?_
    refine wp_region_lit ?_
    refine sv' hF (wn rfl) rfl rfl (R.assign (hF.ev rfl)) fun a hF => ?_
    refine sv' hF (wn rfl) rfl rfl (R.assign (hF.ev rfl)) fun a hF => ?_
    refine s0 ?_
    refine then_n (hK4 _ _ ?_)
    refine wp_ret (then_r (hR _ _ _ _ _ hF (run_results Try.results90 (.t hF rfl (.t hF rfl (.nil)))) ?_))
    exact ⟨_, [], rfl, ⟨by rw [if_neg h6]; rfl, rfl⟩, hS.none⟩
  ·
    have h6 : n < 64 := by (by_cases h : n < 64; exact h; exact absurd (cmp64.2 h) c1)
    refine wp_skip ?_
    refine then_n (hK2 _ _ ?_)
    refine wp_seq_k fun K5 hK5 => ?_
    refine wp_region_lit ?_
    refine sv' hF (wn rfl) rfl rfl (R.indexA Try.underlying31 sz29 (hF.ev rfl) (hF.ev rfl) (by omega) (by omega)) fun a hF => ?_
    refine sv' hF (wn rfl) rfl rfl (R.load one29 (hF.ev rfl) hS (.t (.t .h)) (rfl)) fun a hF => ?_
    refine sv' hF (wn rfl) rfl rfl (R.as (u := .int .i64 ((n : Nat) : Int)) (R.convI Try.underlying29 Try.underlying3 (hF.ev rfl) (by have := tok_dg h6; omega)) (congrArg (fun z : Nat => Value.int .i64 (z : Int)) (tok_dg h6))) fun a hF => ?_
    refine sv' hF (wn rfl) rfl rfl (R.assign (hF.ev rfl)) fun a hF => ?_
    refine sv' hF (wn rfl) rfl rfl (R.assign (hF.ev rfl)) fun a hF => ?_
    refine s0 ?_
    refine then_n (hK5 _ _ ?_)
    refine wp_ret (hR _ _ _ _ _ hF (run_results Try.results90 (.t hF rfl (.t hF rfl (.nil)))) ?_)
    exact ⟨_, [], rfl, ⟨by rw [if_pos h6]; rfl, rfl⟩, hS.none⟩

theorem address_calls (n : Nat) (w0 : World) : Ret Try.prog 91 [wv n] w0 [] (fun v s => v = .agg (adc (adF n)).toArray ∧ s = []) := by
  refine fn_start Try.func91 rfl Try.ntmps91 rfl [(0, wv n)] ⟨rfl, trivial⟩ ?_
  intro Q a hP hF hR hN
  have hS := St.start w0
  refine wp_seq_k fun K1 hK1 => ?_
  refine wp_region_lit ?_
  refine so (wn rfl) (O.box rfl rfl hF (hF.ev rfl) rfl hS fun b1 a w hF hS => ?_)
  refine so (wn rfl) (O.alloc rfl rfl hF ze28 rfl hS fun b2 a w hF hS => ?_)
  refine s0 ?_
  refine then_n (hK1 _ _ ?_)
  refine wp_seq_k fun K2 hK2 => ?_
  refine wp_region_lit ?_
  refine so (wn rfl) (O.alloc rfl rfl hF ze28 rfl hS fun b3 a w hF hS => ?_)
  refine s0 ?_
  refine then_n (hK2 _ _ ?_)
  refine wp_seq_k fun K3 hK3 => ?_
  refine wp_region_lit ?_
  refine sv' hF (wn rfl) rfl rfl (R.loadW agg31 (hF.ev rfl) hS (.t (.t .h)) sz31 (rfl)) fun a hF => ?_
  refine so (wn rfl) (O.call rfl rfl hF ent98 (hF.evs rfl) hS (bytes32_calls n _) fun v s6 a w hR hF hS => ?_)
  obtain ⟨b6, rfl, rfl⟩ := hR
  refine sv' hF (wn rfl) rfl rfl (R.assign (hF.ev rfl)) fun a hF => ?_
  refine s0 ?_
  refine then_n (hK3 _ _ ?_)
  refine wp_seq_k fun K4 hK4 => ?_
  refine wp_seq_k fun K5 hK5 => ?_
  refine wp_region_lit ?_
  refine sv' hF (wn rfl) rfl rfl (R.move (hF.ev rfl)) fun a hF => ?_
  refine sv' hF (wn rfl) rfl rfl (R.len Try.underlying23 (hF.ev rfl)) fun a hF => ?_
  refine sv' hF (wn rfl) rfl rfl (R.eql (hF.ev rfl) (hF.ev rfl)) fun a hF => ?_
  refine s0 ?_
  refine then_n (hK5 _ _ ?_)
  refine cD hF rfl (fun c1 => ?_) (fun c1 => ?_)
  ·
    refine wp_drawS hS [(0, 0), (1, 0), (2, 0), (3, 3)] mix (by kernel_rfl) (hP.then) fun w hS => ?_
    have hD := hS
    refine dq hF rfl (wn rfl) rfl rfl (fun w => R.sliceAll Try.underlying28 sz5 (hF.ev rfl)) fun a hF => ?_
    refine dq hF rfl (wn rfl) rfl rfl (fun w => R.move (hF.ev rfl)) fun a hF => ?_
    refine dq hF rfl (wn rfl) rfl rfl (fun w => R.as (u := .slice (some ⟨b6, 12, none⟩) 20 20) (R.sliceLo (p := 12) Try.underlying23 (hF.ev rfl) (hF.ev rfl) (by decide) sz5) (rfl)) fun a hF => ?_
    refine dw rfl (wn rfl) (O.copyAt (cs := adc (adF n)) rfl rfl hF Try.underlying23 sz5 (hF.ev rfl) (hF.ev rfl) hS (Rd.own hS .h adc_wb) rfl (by decide) (one_adc (adF n)) (.t .h) (show _ = adc (adF n) from rfl) (by decide) fun a w hF hS => ?_)
    refine d0 ?_
    refine then_n (hK4 _ _ ?_)
    refine wp_seq_k fun K6 hK6 => ?_
    refine wp_region_lit ?_
    refine sv' hF (wn rfl) rfl rfl (R.loadW agg28 (hF.ev rfl) hS (.t .h) sz28 (rfl)) fun a hF => ?_
    refine so (wn rfl) (O.storeW sz28 (hF.ev rfl) (hF.ev rfl) (rfl) rfl (one_adc (adF n)) hS (.t (.t .h)) (rfl) fun w hS => ?_)
    refine s0 ?_
    refine then_n (hK6 _ _ ?_)
    refine wp_ret (hR _ _ _ _ _ hF (run_results Try.results91 (.cw hF rfl agg28 hS (.t (.t .h)) sz28 (rfl) (.nil))) ?_)
    exact ⟨_, [], rfl, ⟨rfl, rfl⟩, hS.none⟩
  ·
    exact absurd rfl c1

end Go.Proofs.Ytlapmbkfmbkdoaa

/- The calls of count, reckoned, who. -/
namespace Go.Proofs.Ytlapmbkfmbkdoaa
open Go Go.Fw Go.RowKit
attribute [local irreducible] Go.Oper.wp Go.Code.wp Go.wpList Go.Fw.WL Go.Calls
theorem count_calls (F : Fx) (V : Vr) (stk : List Nat) (s : Seg) (n : Nat) (w0 : World) (hRun : RunS F V stk s) (ho : Own w0 s) (hn : n ≤ 9223372036854775807) (hl : stk.length ≤ 64) : Ret Try.prog 88 [.pointer (some ⟨F.rb, 0, none⟩), .int .i64 ((n : Nat) : Int)] w0 (s.map (·.1)) (fun v s' => v = .int .i64 0 ∧ RunS F V (stk ++ [n]) s') := by
  refine fn_start Try.func88 rfl Try.ntmps88 rfl [(0, .pointer (some ⟨F.rb, 0, none⟩)), (1, .int .i64 ((n : Nat) : Int))] ⟨rfl, rfl, trivial⟩ ?_
  intro Q a hP hF hR hN
  have hS := St.enter ho
  refine wp_seq_k fun K1 hK1 => ?_
  refine wp_region_lit ?_
  refine sv' hF (wn rfl) rfl rfl (R.assign (hF.ev rfl)) fun a hF => ?_
  refine s0 ?_
  refine then_n (hK1 _ _ ?_)
  refine wp_seq_k fun K2 hK2 => ?_
  refine wp_region_lit ?_
  refine sv' hF (wn rfl) rfl rfl (R.move (hF.ev rfl)) fun a hF => ?_
  refine sv' hF (wn rfl) rfl rfl (R.move (hF.ev rfl)) fun a hF => ?_
  refine sv' hF (wn rfl) rfl rfl (R.as (u := .int .u64 ((n : Nat) : Int)) (R.convU Try.underlying3 Try.underlying29 (hF.ev rfl)) (congrArg (fun z : Nat => Value.int .u64 (z : Int)) (by omega))) fun a hF => ?_
  refine so (wn rfl) (O.call rfl rfl hF ent97 (hF.evs rfl) hS (of_calls n _ (by omega)) fun v s8 a w hR hF hS => ?_)
  obtain ⟨rfl, rfl⟩ := hR
  refine so (wn rfl) (O.callK rfl rfl hF ent79 (hF.evs rfl) hS (on_calls F V stk _ (n) _ hRun (hS.own1 (.t .h)) (hl)) (fun _ => (.t .h)) fun v s9 a w hR hF hS => ?_)
  obtain ⟨rfl, hRun2⟩ := hR
  refine sv' hF (wn rfl) rfl rfl (R.assign (hF.ev rfl)) fun a hF => ?_
  refine s0 ?_
  refine then_n (hK2 _ _ ?_)
  refine wp_ret (hR _ _ _ _ _ hF (run_results Try.results88 (.t hF rfl (.nil))) ?_)
  exact ⟨_, s9, rfl, ⟨rfl, hRun2⟩, hS.one (.t .h)⟩

theorem reckoned_good (F : Fx) (V : Vr) (stk : List Nat) (s : Seg) (n : Nat) (w0 : World) (hRun : RunS F V stk s) (ho : Own w0 s) (hn : n < 115792089237316195423570985008687907853269984665640564039457584007913129639936) (hl : stk.length ≤ 64) : Ret Try.prog 80 [.pointer (some ⟨F.rb, 0, none⟩), wv n, .int .i64 0] w0 (s.map (·.1)) (fun v s' => v = .int .i64 0 ∧ RunS F V (stk ++ [n]) s') := by
  refine fn_start Try.func80 rfl Try.ntmps80 rfl [(0, .pointer (some ⟨F.rb, 0, none⟩)), (1, wv n), (2, .int .i64 0)] ⟨rfl, rfl, rfl, trivial⟩ ?_
  intro Q a hP hF hR hN
  have hS := St.enter ho
  refine wp_seq_k fun K1 hK1 => ?_
  refine wp_region_lit ?_
  refine so (wn rfl) (O.box rfl rfl hF (hF.ev rfl) rfl hS fun b4 a w hF hS => ?_)
  refine sv' hF (wn rfl) rfl rfl (R.assign (hF.ev rfl)) fun a hF => ?_
  refine s0 ?_
  refine then_n (hK1 _ _ ?_)
  refine wp_seq_k fun K2 hK2 => ?_
  refine wp_seq_k fun K3 hK3 => ?_
  refine wp_region_lit ?_
  refine sv' hF (wn rfl) rfl rfl (R.move (hF.ev rfl)) fun a hF => ?_
  refine sv' hF (wn rfl) rfl rfl (R.as (u := .bool false) (R.neq (p := 0) (q := 0) (hF.ev rfl) (hF.ev rfl)) (congrArg Value.bool (decide_eq_false (fun h => h rfl)))) fun a hF => ?_
  refine s0 ?_
  refine then_n (hK3 _ _ ?_)
  refine cF hF rfl ?_
  refine wp_skip ?_
  refine then_n (hK2 _ _ ?_)
  refine wp_seq_k fun K4 hK4 => ?_
  refine wp_region_lit ?_
  refine sv' hF (wn rfl) rfl rfl (R.move (hF.ev rfl)) fun a hF => ?_
  refine sv' hF (wn rfl) rfl rfl (R.loadW agg31 (hF.ev rfl) hS .h sz31 (rfl)) fun a hF => ?_
  refine so (wn rfl) (O.callK rfl rfl hF ent79 (hF.evs rfl) hS (on_calls F V stk _ (n) _ hRun (hS.own1 (.t .h)) (hl)) (fun _ => (.t .h)) fun v s11 a w hR hF hS => ?_)
  obtain ⟨rfl, hRun2⟩ := hR
  refine sv' hF (wn rfl) rfl rfl (R.assign (hF.ev rfl)) fun a hF => ?_
  refine s0 ?_
  refine then_n (hK4 _ _ ?_)
  refine wp_ret (hR _ _ _ _ _ hF (run_results Try.results80 (.t hF rfl (.nil))) ?_)
  exact ⟨_, s11, rfl, ⟨rfl, hRun2⟩, hS.one (.t .h)⟩

theorem reckoned_bad (F : Fx) (s : Seg) (n : Nat) (e : Int) (w0 : World) (ho : Own w0 s) (he : ¬ e = 0) : Ret Try.prog 80 [.pointer (some ⟨F.rb, 0, none⟩), wv n, .int .i64 e] w0 (s.map (·.1)) (fun v s' => v = .int .i64 104 ∧ s' = s) := by
  refine fn_start Try.func80 rfl Try.ntmps80 rfl [(0, .pointer (some ⟨F.rb, 0, none⟩)), (1, wv n), (2, .int .i64 e)] ⟨rfl, rfl, rfl, trivial⟩ ?_
  intro Q a hP hF hR hN
  have hS := St.enter ho
  refine wp_seq_k fun K1 hK1 => ?_
  refine wp_region_lit ?_
  refine so (wn rfl) (O.box rfl rfl hF (hF.ev rfl) rfl hS fun b4 a w hF hS => ?_)
  refine sv' hF (wn rfl) rfl rfl (R.assign (hF.ev rfl)) fun a hF => ?_
  refine s0 ?_
  refine then_n (hK1 _ _ ?_)
  refine wp_seq_k fun K2 hK2 => ?_
  refine wp_seq_k fun K3 hK3 => ?_
  refine wp_region_lit ?_
  refine sv' hF (wn rfl) rfl rfl (R.move (hF.ev rfl)) fun a hF => ?_
  refine sv' hF (wn rfl) rfl rfl (R.as (u := .bool true) (R.neq (p := e) (q := 0) (hF.ev rfl) (hF.ev rfl)) (congrArg Value.bool (decide_eq_true he))) fun a hF => ?_
  refine s0 ?_
  refine then_n (hK3 _ _ ?_)
  refine cT hF rfl ?_
  refine wp_seq_k fun K4 hK4 => ?_
  refine wp_region_lit ?_
  refine sv' hF (wn rfl) rfl rfl (R.assign (hF.ev rfl)) fun a hF => ?_
  refine s0 ?_
  refine then_n (hK4 _ _ ?_)
  refine wp_ret (then_r (hR _ _ _ _ _ hF (run_results Try.results80 (.t hF rfl (.nil))) ?_))
  exact ⟨_, s, rfl, ⟨rfl, rfl⟩, (hS.sel [1] rfl rfl)⟩

theorem who_calls (F : Fx) (V : Vr) (stk : List Nat) (s : Seg) (f : Nat → Nat) (w0 : World) (hRun : RunS F V stk s) (ho : Own w0 s) (hf : ∀ i, f i < 256) (hl : stk.length ≤ 64) : Ret Try.prog 89 [.pointer (some ⟨F.rb, 0, none⟩), .agg (adc f).toArray] w0 (s.map (·.1)) (fun v s' => v = .int .i64 0 ∧ RunS F V (stk ++ [adN f]) s') := by
  refine fn_start Try.func89 rfl Try.ntmps89 rfl [(0, .pointer (some ⟨F.rb, 0, none⟩)), (1, .agg (adc f).toArray)] ⟨rfl, rfl, trivial⟩ ?_
  intro Q a hP hF hR hN
  have hS := St.enter ho
  refine wp_seq_k fun K1 hK1 => ?_
  refine wp_region_lit ?_
  refine so (wn rfl) (O.box rfl rfl hF (hF.ev rfl) rfl hS fun b3 a w hF hS => ?_)
  refine sv' hF (wn rfl) rfl rfl (R.assign (hF.ev rfl)) fun a hF => ?_
  refine s0 ?_
  refine then_n (hK1 _ _ ?_)
  refine wp_seq_k fun K2 hK2 => ?_
  refine wp_region_lit ?_
  refine so (wn rfl) (O.alloc rfl rfl hF ze101b rfl hS fun b5 a w hF hS => ?_)
  refine s0 ?_
  refine then_n (hK2 _ _ ?_)
  refine wp_seq_k fun K3 hK3 => ?_
  refine wp_drawS hS [(0, 0), (1, 0), (2, 3)] mix (by kernel_rfl) (hP.then) fun w hS => ?_
  have hD := hS
  refine dq hF rfl (wn rfl) rfl rfl (fun w => R.sliceArrLo (p := 12) Try.underlying101 sz5 (hF.ev rfl) (hF.ev rfl) (by decide)) fun a hF => ?_
  refine dq hF rfl (wn rfl) rfl rfl (fun w => R.sliceAll Try.underlying28 sz5 (hF.ev rfl)) fun a hF => ?_
  refine dw rfl (wn rfl) (O.copyAt (cs := adc f) rfl rfl hF Try.underlying23 sz5 (hF.ev rfl) (hF.ev rfl) hS (Rd.own0 hS (.t .h)) rfl (by decide) (one_adc f) .h (spl_who f) (by show _ ≤ 32; decide) fun a w hF hS => ?_)
  refine d0 ?_
  refine then_n (hK3 _ _ ?_)
  refine wp_seq_k fun K4 hK4 => ?_
  refine wp_region_lit ?_
  refine sv' hF (wn rfl) rfl rfl (R.sliceAll Try.underlying101 sz5 (hF.ev rfl)) fun a hF => ?_
  refine so (wn rfl) (O.call rfl rfl hF ent78 (hF.evs rfl) hS (read32_calls ((List.range 20).map f) 12 _ (Rd.own0 hS .h) (by simp) (byt_range hf 20)) fun v s13 a w hR hF hS => ?_)
  obtain ⟨rfl, rfl⟩ := hR
  refine sv' hF (wn rfl) rfl rfl (R.move (hF.ev rfl)) fun a hF => ?_
  refine sv' hF (wn rfl) rfl rfl (R.extract (hF.ev rfl) rfl) fun a hF => ?_
  refine sv' hF (wn rfl) rfl rfl (R.extract (hF.ev rfl) rfl) fun a hF => ?_
  refine so (wn rfl) (O.alloc rfl rfl hF ze31 rfl hS fun b6 a w hF hS => ?_)
  refine so (wn rfl) (O.storeW sz31 (hF.ev rfl) (hF.ev rfl) (rfl) rfl (by simp [Value.oneCell']) hS .h (rfl) fun w hS => ?_)
  refine sv' hF (wn rfl) rfl rfl (R.assign (hF.ev rfl)) fun a hF => ?_
  refine s0 ?_
  refine then_n (hK4 _ _ ?_)
  refine wp_seq_k fun K5 hK5 => ?_
  refine wp_seq_k fun K6 hK6 => ?_
  refine wp_region_lit ?_
  refine sv' hF (wn rfl) rfl rfl (R.move (hF.ev rfl)) fun a hF => ?_
  refine sv' hF (wn rfl) rfl rfl (R.as (u := .bool false) (R.neq (p := 0) (q := 0) (hF.ev rfl) (hF.ev rfl)) (rfl)) fun a hF => ?_
  refine s0 ?_
  refine then_n (hK6 _ _ ?_)
  refine cF hF rfl ?_
  refine wp_skip ?_
  refine then_n (hK5 _ _ ?_)
  refine wp_seq_k fun K7 hK7 => ?_
  refine wp_region_lit ?_
  refine sv' hF (wn rfl) rfl rfl (R.move (hF.ev rfl)) fun a hF => ?_
  refine sv' hF (wn rfl) rfl rfl (R.loadW agg31 (hF.ev rfl) hS .h sz31 (rfl)) fun a hF => ?_
  refine so (wn rfl) (O.callK rfl rfl hF ent79 (hF.evs rfl) hS (on_calls F V stk _ (adN f) _ hRun (hS.own1 (.t (.t (.t (.t .h))))) (hl)) (fun _ => (.t (.t (.t (.t .h))))) fun v s21 a w hR hF hS => ?_)
  obtain ⟨rfl, hRun2⟩ := hR
  refine sv' hF (wn rfl) rfl rfl (R.assign (hF.ev rfl)) fun a hF => ?_
  refine s0 ?_
  refine then_n (hK7 _ _ ?_)
  refine wp_ret (hR _ _ _ _ _ hF (run_results Try.results89 (.t hF rfl (.nil))) ?_)
  exact ⟨_, s21, rfl, ⟨rfl, hRun2⟩, hS.one (.t (.t (.t (.t .h))))⟩

end Go.Proofs.Ytlapmbkfmbkdoaa
