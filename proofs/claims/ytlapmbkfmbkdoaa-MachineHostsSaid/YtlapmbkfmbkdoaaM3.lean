/- Texts Bk Bl Bm Bn Bp Bq Br Bs Bt Bu Bv Bw in one. -/
import Derived.Test.YtlapmbkfmbkdoaaM2
import Derived.Test.YtlapmbkfmbkdoaaR
import Derived.Test.YtlapmbkfmbkdoaaBo
import Derived.Laws.BytesArg
import Derived.Laws.Strings
/- The calls of the reference's division of digits. -/
namespace Go.Proofs.Ytlapmbkfmbkdoaa
open Go Go.Fw Go.RowKit
attribute [local irreducible] Go.Oper.wp Go.Code.wp Go.wpList Go.Fw.WL Go.Calls
theorem quo_top {x y : Nat} (_h : x < 2 ^ (bl x).length) : intsF (bl x).length (fun _ => 0) = intsF (bl x).length (quo x y (bl x).length) := by
  unfold intsF
  congr 1
  refine List.map_congr_left fun k hk => ?_
  rw [quo, if_neg (by have := List.mem_range.1 hk; omega)]

end Go.Proofs.Ytlapmbkfmbkdoaa

/- The calls of the reference's Div. -/
namespace Go.Proofs.Ytlapmbkfmbkdoaa
open Go Go.Fw Go.RowKit
attribute [local irreducible] Go.Oper.wp Go.Code.wp Go.wpList Go.Fw.WL Go.Calls
theorem St.split2 {w0 w : World} {ks : List Nat} {bs : List Seg} {s1 s2 : Seg} (h : St w0 ks ((s1 ++ s2) :: bs) w) : St w0 ks (s1 :: s2 :: bs) w := h.flat (by simp)
def divW (x y : Nat) : Value := .tuple #[wv (if y = 0 then 0 else x / y), wv (if y = 0 then 0 else x % y), .int .i64 (if y = 0 then 24 else 0)]
def mulDivW (x y z : Nat) : Value := .tuple #[wv (if z = 0 then 0 else if x * y / z < 115792089237316195423570985008687907853269984665640564039457584007913129639936 then x * y / z else 0), .int .i64 (if z = 0 then 24 else if x * y / z < 115792089237316195423570985008687907853269984665640564039457584007913129639936 then 0 else 22)]
theorem len_mul {x y : Nat} (hx : x < 115792089237316195423570985008687907853269984665640564039457584007913129639936) (hy : y < 115792089237316195423570985008687907853269984665640564039457584007913129639936) : (bl (x * y)).length ≤ 1000000 := by
  have h1 := (length_bl_lt x _).1 (Nat.le_refl _)
  have h2 := (length_bl_lt y _).1 (Nat.le_refl _)
  have h3 : x * y < 2 ^ ((bl x).length + (bl y).length) := by rw [Nat.pow_add]; exact Nat.mul_lt_mul_of_lt_of_le h1 (Nat.le_of_lt h2) (Nat.pow_pos (by decide))
  have h4 := (length_bl_lt (x * y) _).2 h3
  have := len_bl hx
  have := len_bl hy
  omega

end Go.Proofs.Ytlapmbkfmbkdoaa

/- Slices of whole arrays; copy from one own block into another. No condition beyond each lemma's own. -/
namespace Go.Fw
open Go.RowKit
section
variable {P : Program} {ops : Array Oper} {Q : Exit → Act → World → Prop} {a : Act} {w w' w0 : World} {env : Env} {d N : Nat} {K : Act → World → Prop}
variable {ρ : Operand → Value} {dst : Option Tmp} {ty : TypeId} {pos : String} {af : Array Edge} {g : Option (Nat × Bool)} {x y : Operand} {T E T1 T2 : TypeId}
variable {ks : List Nat} {bs bs' : List Seg} {b n sz c m c2 : Nat} {l l' cs : List Value} {B : Option Addr}
theorem R.sliceAll (hT : P.underlying T = some (.array n E)) (hs : szT P E sz) (hx : ρ x = .pointer (some ⟨b, 0, none⟩)) :
    (execOp ρ ⟨dst, .slice T x none none none, ty, pos, af, g⟩).run P w = .ok (.value (.slice (some ⟨b, 0, none⟩) n n)) w := by
  have e : (if n = 0 then (⟨b, 0, none⟩ : Addr) else (⟨b, 0, none⟩ : Addr).add (0 * sz)) = ⟨b, 0, none⟩ := by simp [Addr.add]
  simp only [execOp, hx, Option.map_none, Instr.sliceAt, Instr.sureAddr, run_underlying hT, Instr.sliceBounds, run_sizeOf' hs,
    Sem.run_bind, Sem.run_pure, Result.andThen_ok, e, Nat.sub_zero]
/-- copy: the first cells of what is read stand in the block; elements of one cell -/
theorem O.copy {cs : List Value} (hd : dst = some d) (hn : Nat.blt d N = true) (hF : Fr N env a) (hT : P.underlying T1 = some (.slice E)) (hs : szT P E 1) (hx : a.eval x = .slice (some ⟨b, 0, none⟩) n c) (hy : a.eval y = .slice B m c2)
    (hS : St w0 ks bs w) (hB : Rd w B cs) (hm : cs.length = m) (hmn : m ≤ n) (hm0 : 0 < m) (hv : ∀ v ∈ cs, v.oneCell' = true) {E2 : TypeId} (hu : UpB bs b (Cel l E2) (Cel l' E2) bs') (hl : spl l 0 cs = l') (hlt : cs.length ≤ l.length)
    (h : ∀ a' w', Fr N ((d, .int .i64 (m : Int)) :: env) a' → St w0 ks bs' w' → K a' w') :
    Oper.wp P ⟨dst, .call ⟨.builtin .copy, [x, y].toArray, [T1, T2].toArray⟩, ty, pos, af, g⟩ a w K Q := by
  subst hd
  have hb := hS.get hu.has
  have hst := run_storeCells_Cel (P := P) cs 0 0 w l hb (by omega) hv
  rw [Nat.add_zero, hl] at hst
  cases B with
  | none =>
    obtain ⟨_, h1, _⟩ := hB 0 cs[0] (by simp [hm, hm0])
    exact absurd h1 (by simp)
  | some s =>
    have hld : (loadCells s m).run P w = .ok cs.toArray w := by
      have := run_loadCells_list (P := P) (w := w) s cs (fun j v hj => by
        obtain ⟨a', h1, h2⟩ := hB j v hj
        simp only [Option.some.injEq] at h1
        rw [h1]; exact h2)
      rw [← hm]; exact this
    have hmin : Nat.min m n = m := Nat.min_eq_left hmn
    unfold Oper.wp
    have : (execOp a.eval ⟨some d, .call ⟨.builtin .copy, [x, y].toArray, [T1, T2].toArray⟩, ty, pos, af, g⟩).run P w = .ok (.value (.int .i64 (m : Int))) (World.setB w b (Cel l' E2)) := by
      simp [execOp, resolve, invoke, builtin, Builtin.copy_, hx, hy, run_underlying hT, Builtin.lenOf, Builtin.firstCells, run_sizeOf' hs, goInt, Sem.run_bind, Result.andThen_ok, hmin, hld, hst]
    rw [this, Oper.upon_value]
    exact h _ _ (hF.put hn _) (hS.setB hu)
end
end Go.Fw

/- The calls of wide.Div. -/
namespace Go.Proofs.Ytlapmbkfmbkdoaa
open Go Go.Fw Go.RowKit
attribute [local irreducible] Go.Oper.wp Go.Code.wp Go.wpList Go.Fw.WL Go.Calls
theorem copy8 {x : Nat} (hx : x < 115792089237316195423570985008687907853269984665640564039457584007913129639936) : spl (cells8 (dg 0)) 0 (wc x) = cells8 (dg x) := by
  have hp : ∀ k, 4 ≤ k → dg x k = 0 := fun k hk => by
    unfold dg
    rw [Nat.div_eq_of_lt (Nat.lt_of_lt_of_le hx (by
      have : (115792089237316195423570985008687907853269984665640564039457584007913129639936 : Nat) = 18446744073709551616 ^ 4 := by decide
      rw [this]; exact Nat.pow_le_pow_right (by decide) hk))]
  have e : cells8 (dg x) = wc x ++ [.int .u64 ((dg x 4 : Nat) : Int), .int .u64 ((dg x 5 : Nat) : Int), .int .u64 ((dg x 6 : Nat) : Int), .int .u64 ((dg x 7 : Nat) : Int)] := rfl
  rw [e, hp 4 (by omega), hp 5 (by omega), hp 6 (by omega), hp 7 (by omega)]
  rfl

theorem div_calls (x y : Nat) (w0 : World) (hx : x < 115792089237316195423570985008687907853269984665640564039457584007913129639936) (hy : y < 115792089237316195423570985008687907853269984665640564039457584007913129639936) : Ret Try.prog 84 [wv x, wv y] w0 [] (fun v s => v = divW x y ∧ s = []) := by
  refine fn_start Try.func84 rfl Try.ntmps84 rfl [(0, wv x), (1, wv y)] ⟨rfl, rfl, trivial⟩ ?_
  intro Q a hP hF hR hN
  have hS := St.start w0
  refine wp_seq_k fun K1 hK1 => ?_
  refine wp_region_lit ?_
  refine so (wn rfl) (O.box rfl rfl hF (hF.ev rfl) rfl hS fun b2 a w hF hS => ?_)
  refine so (wn rfl) (O.box rfl rfl hF (hF.ev rfl) rfl hS fun b3 a w hF hS => ?_)
  refine so (wn rfl) (O.alloc rfl rfl hF ze31 rfl hS fun b4 a w hF hS => ?_)
  refine so (wn rfl) (O.alloc rfl rfl hF ze31 rfl hS fun b5 a w hF hS => ?_)
  refine sv' hF (wn rfl) rfl rfl (R.assign (hF.ev rfl)) fun a hF => ?_
  refine s0 ?_
  refine then_n (hK1 _ _ ?_)
  refine wp_seq_k fun K2 hK2 => ?_
  refine wp_seq_k fun K3 hK3 => ?_
  refine wp_region_lit ?_
  refine sv' hF (wn rfl) rfl rfl (R.loadW agg31 (hF.ev rfl) hS (.t (.t .h)) sz31 (rfl)) fun a hF => ?_
  refine so (wn rfl) (O.call rfl rfl hF ent87 (hF.evs rfl) hS (isZero_calls y _ hy) fun v s11 a w hR hF hS => ?_)
  obtain ⟨rfl, rfl⟩ := hR
  refine s0 ?_
  refine then_n (hK3 _ _ ?_)
  refine cD hF rfl (fun k1 => ?_) (fun k1 => ?_)
  ·
    refine wp_seq_k fun K4 hK4 => ?_
    refine wp_region_lit ?_
    refine sv' hF (wn rfl) rfl rfl (R.buildArr (l := [_, _, _, _]) Try.underlying31 ze31 sz29 (hF.evp rfl) rfl) fun a hF => ?_
    refine sv' hF (wn rfl) rfl rfl (R.buildArr (l := [_, _, _, _]) Try.underlying31 ze31 sz29 (hF.evp rfl) rfl) fun a hF => ?_
    refine so (wn rfl) (O.storeW sz31 (hF.ev rfl) (hF.ev rfl) (rfl) rfl (by simp [Value.oneCell']) hS (.t (.t .h)) (rfl) fun w hS => ?_)
    refine so (wn rfl) (O.storeW sz31 (hF.ev rfl) (hF.ev rfl) (rfl) rfl (by simp [Value.oneCell']) hS (.t .h) (rfl) fun w hS => ?_)
    refine sv' hF (wn rfl) rfl rfl (R.assign (hF.ev rfl)) fun a hF => ?_
    refine s0 ?_
    refine then_n (hK4 _ _ ?_)
    refine wp_ret (then_r (hR _ _ _ _ _ hF (run_results Try.results84 (.cw hF rfl agg31 hS (.t (.t .h)) sz31 (rfl) (.cw hF rfl agg31 hS (.t .h) sz31 (rfl) (.t hF rfl (.nil))))) ?_))
    exact ⟨_, [], rfl, ⟨by simp only [divW, if_pos k1]; rfl, rfl⟩, hS.none⟩
  ·
    refine wp_skip ?_
    refine then_n (hK2 _ _ ?_)
    refine wp_seq_k fun K5 hK5 => ?_
    refine wp_region_lit ?_
    refine so (wn rfl) (O.alloc rfl rfl hF ze121 rfl hS fun b7 a w hF hS => ?_)
    rw [show Cel [.int .u64 0, .int .u64 0, .int .u64 0, .int .u64 0, .int .u64 0, .int .u64 0, .int .u64 0, .int .u64 0] 121 = Cel (cells8 (dg 0)) 121 from rfl] at hS
    refine s0 ?_
    refine then_n (hK5 _ _ ?_)
    refine wp_seq_k fun K6 hK6 => ?_
    refine wp_drawS hS [(0, 0), (1, 0), (2, 3)] mix (by kernel_rfl) (hP.then) fun w hS => ?_
    have hD := hS
    refine dq hF rfl (wn rfl) rfl rfl (fun w => R.sliceAll Try.underlying121 sz29 (hF.ev rfl)) fun a hF => ?_
    refine dq hF rfl (wn rfl) rfl rfl (fun w => R.sliceAll Try.underlying31 sz29 (hF.ev rfl)) fun a hF => ?_
    refine dw rfl (wn rfl) (O.copy rfl rfl hF Try.underlying123 sz29 (hF.ev rfl) (hF.ev rfl) hS (Rd.own0 hS (.t (.t (.t (.t (.t .h)))))) rfl (by decide) (by decide) (by simp [Value.oneCell']) .h (copy8 hx) (by rw [length_cells8]; exact (by simp : (wc x).length ≤ 8)) fun a w hF hS => ?_)
    refine d0 ?_
    refine then_n (hK6 _ _ ?_)
    refine wp_seq_k fun K7 hK7 => ?_
    refine wp_region_lit ?_
    refine sv' hF (wn rfl) rfl rfl (R.loadW agg121 (hF.ev rfl) hS .h sz121 (length_cells8 _)) fun a hF => ?_
    refine sv' hF (wn rfl) rfl rfl (R.loadW agg31 (hF.ev rfl) hS (.t (.t (.t (.t .h)))) sz31 (rfl)) fun a hF => ?_
    refine so (wn rfl) (O.call rfl rfl hF ent96 (hF.evs rfl) hS (divided_calls x y _ (Nat.lt_trans hx (by decide)) (Nat.pos_of_ne_zero k1) hy) fun v s20 a w hR hF hS => ?_)
    obtain ⟨rfl, rfl⟩ := hR
    refine sv' hF (wn rfl) rfl rfl (R.move (hF.ev rfl)) fun a hF => ?_
    refine sv' hF (wn rfl) rfl rfl (R.extract (hF.ev rfl) rfl) fun a hF => ?_
    refine sv' hF (wn rfl) rfl rfl (R.extract (hF.ev rfl) rfl) fun a hF => ?_
    refine so (wn rfl) (O.alloc rfl rfl hF ze121 rfl hS fun b8 a w hF hS => ?_)
    refine so (wn rfl) (O.alloc rfl rfl hF ze31 rfl hS fun b9 a w hF hS => ?_)
    refine so (wn rfl) (O.storeW sz121 (hF.ev rfl) (hF.ev rfl) (length_cells8 _) rfl (one_cells8 _) hS (.t .h) ((length_cells8 _).trans rfl) fun w hS => ?_)
    refine so (wn rfl) (O.storeW sz31 (hF.ev rfl) (hF.ev rfl) (rfl) rfl (by simp [Value.oneCell']) hS .h (rfl) fun w hS => ?_)
    refine s0 ?_
    refine then_n (hK7 _ _ ?_)
    refine wp_seq_k fun K8 hK8 => ?_
    refine wp_drawG hS (hS.sel [1, 0] rfl rfl) [(0, 0), (1, 0), (2, 1), (3, 1), (4, 2), (5, 2), (6, 0)] mix (by kernel_rfl) (hP.then) fun w hS hD => ?_
    refine dq hF rfl (wn rfl) rfl rfl (fun w => R.sliceArr Try.underlying121 sz29 (hF.ev rfl) (hF.ev rfl) (by decide) (by decide)) fun a hF => ?_
    refine dq hF rfl (wn rfl) rfl rfl (fun w => R.arrAt Try.underlying31 (hF.ev rfl) (by decide)) fun a hF => ?_
    refine dr hF rfl (wn rfl) rfl rfl hD (fun w hD => R.loadA (cs := wc (x / y)) agg31 (hF.ev rfl) hD (by first | exact .h | exact .t .h) sz31 rfl (wc_cells8 _)) fun a hF => ?_
    refine dr hF rfl (wn rfl) rfl rfl hD (fun w hD => R.loadW agg31 (hF.ev rfl) hD (.t .h) sz31 (rfl)) fun a hF => ?_
    refine dl rfl (wn rfl) (O.storeW sz31 (hF.ev rfl) (hF.ev rfl) (rfl) rfl (by simp [Value.oneCell']) hS (.t (.t (.t (.t (.t (.t .h)))))) (rfl) fun w hS => ⟨fun hD => hS.sel [1, 0] rfl rfl, ?_⟩)
    have hD := hS.sel [1, 0] rfl rfl
    refine dl rfl (wn rfl) (O.storeW sz31 (hF.ev rfl) (hF.ev rfl) (rfl) rfl (by simp [Value.oneCell']) hS (.t (.t (.t (.t (.t .h))))) (rfl) fun w hS => ⟨fun hD => hS.sel [1, 0] rfl rfl, ?_⟩)
    have hD := hS.sel [1, 0] rfl rfl
    refine dq hF rfl (wn rfl) rfl rfl (fun w => R.assign (hF.ev rfl)) fun a hF => ?_
    refine d0 ?_
    refine then_n (hK8 _ _ ?_)
    refine wp_ret (hR _ _ _ _ _ hF (run_results Try.results84 (.cw hF rfl agg31 hS (.t (.t (.t (.t (.t (.t .h)))))) sz31 (rfl) (.cw hF rfl agg31 hS (.t (.t (.t (.t (.t .h))))) sz31 (rfl) (.t hF rfl (.nil))))) ?_)
    exact ⟨_, [], rfl, ⟨by simp only [divW, if_neg k1]; rfl, rfl⟩, hS.none⟩

end Go.Proofs.Ytlapmbkfmbkdoaa

/- The calls of wide.MulDiv. -/
namespace Go.Proofs.Ytlapmbkfmbkdoaa
open Go Go.Fw Go.RowKit
attribute [local irreducible] Go.Oper.wp Go.Code.wp Go.wpList Go.Fw.WL Go.Calls
end Go.Proofs.Ytlapmbkfmbkdoaa

/- The calls of bits.Len64, wide.Bits. -/
namespace Go.Proofs.Ytlapmbkfmbkdoaa
open Go Go.Fw Go.RowKit
attribute [local irreducible] Go.Oper.wp Go.Code.wp Go.wpList Go.Fw.WL Go.Calls
def okTab (s : ByteArray) : Bool := Nat.beq s.size 256 && (List.range 256).all fun v => match s.data[v]? with
  | some u => Nat.blt v (2 ^ u.toNat) && (Nat.beq u.toNat 0 || Nat.ble (2 ^ (u.toNat - 1)) v)
  | none => false
theorem len_is {v n : Nat} (h1 : v < 2 ^ n) (h2 : n = 0 ∨ 2 ^ (n - 1) ≤ v) : (bl v).length = n := by
  have g1 := (length_bl_lt v n).2 h1
  rcases h2 with rfl | h2
  · omega
  · by_cases h : (bl v).length ≤ n - 1
    · have := (length_bl_lt v (n - 1)).1 h; omega
    · omega
theorem R.lenTab {ρ : Operand → Value} {dst : Option Tmp} {ty : TypeId} {pos : String} {af : Array Edge} {g : Option (Nat × Bool)} {x y : Operand} {w : World} {s : ByteArray} {v : Nat} (hx : ρ x = .string s) (hs : okTab s = true) (hy : ρ y = .int .u8 ((v : Nat) : Int)) (hv : v < 256) :
    (execOp ρ ⟨dst, .index 9 x y, ty, pos, af, g⟩).run Try.prog w = .ok (.value (.int .u8 (((bl v).length : Nat) : Int))) w := by
  simp only [okTab, Bool.and_eq_true] at hs
  have hsz := Nat.eq_of_beq_eq_true hs.1
  have h1 := List.all_eq_true.1 hs.2 v (by simpa using hv)
  refine R.as (R.indexStr Try.underlying9 hx hy (by omega) (by omega)) ?_
  have h2 : v < s.data.size := by
    have : s.data.size = s.size := rfl
    omega
  rw [Array.getElem?_eq_getElem h2] at h1
  simp only [Bool.and_eq_true, Bool.or_eq_true] at h1
  have e : (bl v).length = (s.data[v]).toNat := len_is (by simpa [Nat.blt_eq] using h1.1) (by
    rcases h1.2 with h | h
    · exact .inl (Nat.eq_of_beq_eq_true h)
    · exact .inr (Nat.le_of_ble_eq_true h))
  rw [e]
  rfl
theorem len_shr {x k : Nat} (h : 2 ^ k ≤ x) : (bl x).length = k + (bl (x / 2 ^ k)).length := by
  have hp : 0 < 2 ^ k := Nat.pow_pos (by decide)
  have hx : x ≠ 0 := by omega
  have hpos : 0 < x / 2 ^ k := Nat.div_pos h hp
  generalize hn : (bl (x / 2 ^ k)).length = n
  have h1 : x / 2 ^ k < 2 ^ n := (length_bl_lt _ _).1 (by omega)
  have h2 : ¬ (bl (x / 2 ^ k)).length ≤ n - 1 := by
    intro h
    have h3 : n = 0 := by omega
    subst h3
    simp at h1
    omega
  have h3 : 2 ^ (n - 1) ≤ x / 2 ^ k := Nat.le_of_not_lt fun h => h2 ((length_bl_lt _ _).2 h)
  have hn0 : 0 < n := by
    rcases Nat.eq_zero_or_pos n with h | h
    · subst h; simp at h1; omega
    · exact h
  refine len_is ?_ (.inr ?_)
  · rw [Nat.pow_add]
    exact (Nat.div_lt_iff_lt_mul hp).1 h1 |> fun h => by rw [Nat.mul_comm]; exact h
  · rw [show k + n - 1 = (n - 1) + k from by omega, Nat.pow_add]
    exact (Nat.le_div_iff_mul_le hp).1 h3

theorem len_top {x k : Nat} (h0 : 0 < k) (hx : x / 18446744073709551616 ^ k = 0) (hn : dg x (k - 1) ≠ 0) : (bl x).length = 64 * (k - 1) + (bl (dg x (k - 1))).length := by
  have h1 := div_dg x k h0
  rw [hx] at h1
  have h2 : x / 2 ^ (64 * (k - 1)) = dg x (k - 1) := by rw [← B_pow]; omega
  have h3 : 2 ^ (64 * (k - 1)) ≤ x := Nat.le_of_not_lt fun h => hn (by rw [← h2]; exact Nat.div_eq_of_lt h)
  rw [len_shr h3, h2]
theorem len64 {x : Nat} (h : x < 18446744073709551616) : (bl x).length ≤ 64 := (length_bl_lt x 64).2 h

end Go.Proofs.Ytlapmbkfmbkdoaa

/- Bytes as values, strings, decimal digits; the long division of bits.Div64. No condition beyond each lemma's own. -/
namespace Go.Fw
open Go.RowKit
/-! ### bytes -/
def byts (xs : List Nat) : List Value := xs.map fun (n : Nat) => .int .u8 (n : Int)
def bstr (xs : List Nat) : ByteArray := ⟨(xs.map fun n => UInt8.ofNat n).toArray⟩
def bys (s : ByteArray) : List Nat := s.data.toList.map (·.toNat)
def Byt (xs : List Nat) : Prop := ∀ b ∈ xs, b < 256
theorem length_byts (xs : List Nat) : (byts xs).length = xs.length := by simp [byts]
theorem length_bys (s : ByteArray) : (bys s).length = s.size := by unfold bys; rw [List.length_map, Array.length_toList]; rfl
theorem size_bstr (xs : List Nat) : (bstr xs).size = xs.length := by simp [bstr, ByteArray.size]
theorem byt_bys (s : ByteArray) : Byt (bys s) := by
  intro b hb
  simp only [bys, List.mem_map] at hb
  obtain ⟨u, _, rfl⟩ := hb
  exact u.toNat_lt
theorem bstr_bys (s : ByteArray) : bstr (bys s) = s := by
  unfold bstr bys
  simp only [List.map_map]
  have : ((fun n => UInt8.ofNat n) ∘ fun (x : UInt8) => x.toNat) = id := by funext x; simp
  rw [this]
  simp
theorem bys_bstr {xs : List Nat} (h : Byt xs) : bys (bstr xs) = xs := by
  unfold bstr bys
  simp only [List.map_map]
  conv => rhs; rw [← List.map_id xs]
  apply List.map_congr_left
  intro a ha
  have := h a ha
  simp [Nat.mod_eq_of_lt this]
theorem bstr_inj {xs ys : List Nat} (hx : Byt xs) (hy : Byt ys) (h : bstr xs = bstr ys) : xs = ys := by
  rw [← bys_bstr hx, h, bys_bstr hy]
theorem bys_inj {s t : ByteArray} (h : bys s = bys t) : s = t := by rw [← bstr_bys s, h, bstr_bys]
theorem byts_one (xs : List Nat) : ∀ u ∈ byts xs, u.oneCell' = true := by
  intro u hu
  simp only [byts, List.mem_map] at hu
  obtain ⟨n, _, rfl⟩ := hu
  rfl
theorem byts_snoc (xs : List Nat) (b : Nat) : byts xs ++ [.int .u8 (b : Int)] = byts (xs ++ [b]) := by simp [byts]
theorem byts_append (xs ys : List Nat) : byts xs ++ byts ys = byts (xs ++ ys) := by simp [byts]
theorem byts_take (xs : List Nat) (k : Nat) : (byts xs).take k = byts (xs.take k) := by simp [byts, List.map_take]
theorem byts_get (xs : List Nat) (i : Nat) (h : i < xs.length) : (byts xs)[i]? = some (.int .u8 ((xs.getD i 0 : Nat) : Int)) := by
  simp [byts, h]
theorem bys_at (s : ByteArray) (i : Nat) (h : i < s.size) : (bys s).getD i 0 = (s[i]'h).toNat := by
  have h2 : i < s.data.toList.length := h
  unfold bys
  rw [List.getD_eq_getElem?_getD, List.getElem?_map, List.getElem?_eq_getElem h2]
  rfl

section
variable {P : Program} {w : World} {n c : Nat} {A : Option Addr} {xs : List Nat}
variable {ρ : Operand → Value} {dst : Option Tmp} {ty : TypeId} {pos : String} {af : Array Edge} {g : Option (Nat × Bool)} {x y : Operand} {T U E : TypeId}
theorem R.convStr (hT : P.underlying T = some (.slice E)) (hE : P.underlying E = some (.int .u8)) (hU : P.underlying U = some .string) (hx : ρ x = .slice A n c) (hA : Rd w A (byts xs)) (hn : xs.length = n) :
    (execOp ρ ⟨dst, .convert T U x, ty, pos, af, g⟩).run P w = .ok (.value (.string (bstr xs))) w := by
  have key : (Go.convert T U (.slice A n c)).run P w = .ok (.string (bstr xs)) w := by
    rw [run_convert_bytes_string w T U E A n c hT hE hU]
    cases A with
    | none =>
      have : xs = [] := by
        cases xs with
        | nil => rfl
        | cons b r => obtain ⟨a, ha, _⟩ := hA 0 (.int .u8 (b : Int)) rfl; simp at ha
      subst this
      have e : bstr [] = ByteArray.empty := rfl
      rw [e]
      simp [Conv.bytesToString]
    | some a =>
      have hl : (loadCells a n).run P w = .ok ((xs.map fun (n : Nat) => (n : Int)).map (Value.int .u8)).toArray w := by
        have h1 := run_loadCells_list (P := P) (w := w) a (byts xs) (fun j v hj => by
          obtain ⟨a', e, hc⟩ := hA j v hj
          simp only [Option.some.injEq] at e
          subst e; exact hc)
        rw [length_byts, hn] at h1
        rw [h1]
        simp [byts, Function.comp_def]
      rw [run_bytesToString w a n c _ hl, foldl_push_bytes]
      simp [bstr, ByteArray.empty, ByteArray.emptyWithCapacity, Function.comp_def]
      rfl
  simp only [execOp, hx, key, Sem.run_bind, Sem.run_pure, Result.andThen_ok]
theorem toList_eq_iff (s t : ByteArray) : (s.toList == t.toList) = decide (s = t) := by
  rw [ByteArray.toList_eq, ByteArray.toList_eq]
  by_cases h : s = t
  · subst h; simp
  · have h2 : ¬ s.data.toList = t.data.toList := fun e => h (by
      have h3 : s.data = t.data := by rw [← Array.toArray_toList (xs := s.data), e]
      cases s; cases t; cases h3; rfl)
    rw [decide_eq_false h]
    cases hb : s.data.toList == t.data.toList
    · rfl
    · exact absurd (by simpa using congrArg Array.toList (show s.data = t.data by simpa using hb)) h2
theorem R.eqlStr {s t : ByteArray} {T' : TypeId} (hx : ρ x = .string s) (hy : ρ y = .string t) :
    (execOp ρ ⟨dst, .binOp .eql T x y T', ty, pos, af, g⟩).run P w = .ok (.value (.bool (decide (s = t)))) w := by
  simp only [execOp, hx, hy, eqGuard, binOp_string_eql, toList_eq_iff, Sem.run_bind, Sem.run_pure]
  rfl
theorem R.neqStr {s t : ByteArray} {T' : TypeId} (hx : ρ x = .string s) (hy : ρ y = .string t) :
    (execOp ρ ⟨dst, .binOp .neq T x y T', ty, pos, af, g⟩).run P w = .ok (.value (.bool (decide (¬ s = t)))) w := by
  simp only [execOp, hx, hy, eqGuard, binOp_string_neq, toList_eq_iff, Sem.run_bind, Sem.run_pure, decide_not]
  rfl
/-- a byte of a string, as a number -/
theorem R.chr {k : IntKind} {m : Int} {s : ByteArray} (hT : P.underlying T = some .string) (hx : ρ x = .string s) (hy : ρ y = .int k m) (h0 : 0 ≤ m) (h2 : m.toNat < s.size) :
    (execOp ρ ⟨dst, .index T x y, ty, pos, af, g⟩).run P w = .ok (.value (.int .u8 (((bys s).getD m.toNat 0 : Nat) : Int))) w := by
  rw [bys_at s m.toNat h2]
  exact R.indexStr hT hx hy h0 h2
end

/-! ### decimal digits, the lowest first -/
def val10 : List Nat → Nat
  | [] => 0
  | b :: r => b + 10 * val10 r
def dd (n : Nat) : List Nat := if h : n = 0 then [] else (n % 10) :: dd (n / 10)
termination_by n
decreasing_by omega
def dec (n : Nat) : List Nat := if n = 0 then [0] else dd n
def Dig (xs : List Nat) : Prop := ∀ b ∈ xs, b < 10
/-- a number's text, its bytes -/
def txt (n : Nat) : List Nat := (dec n).reverse.map (48 + ·)
theorem dd_0 : dd 0 = [] := by unfold dd; simp
theorem dd_pos {n : Nat} (h : n ≠ 0) : dd n = (n % 10) :: dd (n / 10) := by rw [dd, dif_neg h]
theorem val_dd (n : Nat) : val10 (dd n) = n := by
  induction n using Nat.strongRecOn with
  | ind n ih =>
    by_cases h : n = 0
    · subst h; simp [dd_0, val10]
    · rw [dd_pos h, val10, ih _ (by omega)]; omega
theorem dig_dd (n : Nat) : Dig (dd n) := by
  induction n using Nat.strongRecOn with
  | ind n ih =>
    by_cases h : n = 0
    · subst h; intro b hb; simp [dd_0] at hb
    · rw [dd_pos h]
      intro b hb
      rcases List.mem_cons.1 hb with rfl | hb
      · omega
      · exact ih _ (by omega) b hb
theorem val10_append (xs ys : List Nat) : val10 (xs ++ ys) = val10 xs + 10 ^ xs.length * val10 ys := by
  induction xs with
  | nil => simp [val10]
  | cons b r ih =>
    simp only [List.cons_append, val10, ih, List.length_cons, Nat.pow_succ]
    rw [Nat.mul_add, ← Nat.mul_assoc, Nat.mul_comm 10 (10 ^ r.length)]
    omega
theorem val10_snoc (xs : List Nat) (b : Nat) : val10 (xs ++ [b]) = val10 xs + 10 ^ xs.length * b := by rw [val10_append]; simp [val10]
theorem val10_lt {xs : List Nat} (h : Dig xs) : val10 xs < 10 ^ xs.length := by
  induction xs with
  | nil => simp [val10]
  | cons b r ih =>
    have h1 := h b (by simp)
    have h2 := ih fun c hc => h c (by simp [hc])
    simp only [val10, List.length_cons, Nat.pow_succ]
    omega
/-- digits of which the last one isn't nought are those of their number -/
theorem dd_val {xs : List Nat} (h : Dig xs) (hl : ∀ hne : xs ≠ [], xs.getLast hne ≠ 0) : dd (val10 xs) = xs := by
  induction xs with
  | nil => simp [val10, dd_0]
  | cons b r ih =>
    have hb := h b (by simp)
    have hr := ih (fun c hc => h c (by simp [hc])) (fun hne => by have := hl (by simp); rwa [List.getLast_cons hne] at this)
    have hne : val10 (b :: r) ≠ 0 := by
      simp only [val10]
      cases r with
      | nil =>
        have := hl (by simp)
        simp only [List.getLast_singleton] at this
        omega
      | cons c r' =>
        intro h0
        have h1 : val10 (c :: r') = 0 := by omega
        rw [h1, dd_0] at hr
        simp at hr
    rw [dd_pos hne]
    simp only [val10]
    rw [show (b + 10 * val10 r) % 10 = b from by omega, show (b + 10 * val10 r) / 10 = val10 r from by omega, hr]
theorem dec_val {xs : List Nat} (h : Dig xs) (hne : xs ≠ []) (hl : xs.length = 1 ∨ xs.getLast hne ≠ 0) : dec (val10 xs) = xs := by
  unfold dec
  by_cases h0 : val10 xs = 0
  · rw [if_pos h0]
    rcases hl with hl | hl
    · obtain ⟨b, rfl⟩ := List.length_eq_one_iff.1 hl
      simp [val10] at h0
      rw [h0]
    · have := dd_val h fun _ => hl
      rw [h0, dd_0] at this
      exact absurd this.symm hne
  · rw [if_neg h0]
    refine dd_val h fun _ => ?_
    rcases hl with hl | hl
    · obtain ⟨b, rfl⟩ := List.length_eq_one_iff.1 hl
      simp [val10] at h0
      simpa using h0
    · exact hl
theorem val_dec (n : Nat) : val10 (dec n) = n := by
  unfold dec
  split
  · rename_i h; simp [val10, h]
  · exact val_dd n
theorem dig_dec (n : Nat) : Dig (dec n) := by
  unfold dec
  split
  · intro b hb; simp at hb; omega
  · exact dig_dd n
theorem dec_ne (n : Nat) : dec n ≠ [] := by
  unfold dec
  split
  · simp
  · rename_i h; rw [dd_pos h]; simp
theorem last_dd (n : Nat) (hne : dd n ≠ []) : (dd n).getLast hne ≠ 0 := by
  induction n using Nat.strongRecOn with
  | ind n ih =>
    by_cases h : n = 0
    · subst h; exact absurd dd_0 hne
    · have h2 := dd_pos h
      by_cases h3 : n / 10 = 0
      · have : dd n = [n % 10] := by rw [h2, h3, dd_0]
        simp only [this, List.getLast_singleton]
        omega
      · have hne2 : dd (n / 10) ≠ [] := by rw [dd_pos h3]; simp
        have := ih (n / 10) (by omega) hne2
        simp only [h2]
        rw [List.getLast_cons hne2]
        exact this
theorem length_dec_le {n k : Nat} (h : n < 10 ^ k) (hk : 0 < k) : (dec n).length ≤ k := by
  unfold dec
  split
  · exact hk
  · rename_i h0
    by_cases hle : (dd n).length ≤ k
    · exact hle
    · exfalso
      have hne : dd n ≠ [] := by rw [dd_pos h0]; simp
      have h1 := last_dd n hne
      have h2 : dd n = (dd n).dropLast ++ [(dd n).getLast hne] := (List.dropLast_concat_getLast hne).symm
      have h3 := val_dd n
      rw [h2, val10_snoc, List.length_dropLast] at h3
      have h4 : 10 ^ k ≤ 10 ^ ((dd n).length - 1) := Nat.pow_le_pow_right (by decide) (by omega)
      have h5 : 10 ^ ((dd n).length - 1) ≤ 10 ^ ((dd n).length - 1) * (dd n).getLast hne := Nat.le_mul_of_pos_right _ (by omega)
      omega
theorem dig_snoc {xs : List Nat} (h : Dig xs) {b : Nat} (hb : b < 10) : Dig (xs ++ [b]) := by
  intro c hc
  rcases List.mem_append.1 hc with hc | hc
  · exact h c hc
  · simp only [List.mem_singleton] at hc; omega

/-! ### long division in halves -/
/-- what the correcting loop of bits.Div64 knows: q is no less than the quotient of N by y -/
theorem knuth_first {u yn1 yn0 : Nat} (h1 : 2147483648 ≤ yn1) (h2 : yn0 < 4294967296) (hu : u < yn1 * 4294967296 + yn0) : u / yn1 ≤ 4294967297 := by
  have : u / yn1 < 4294967298 := by
    rw [Nat.div_lt_iff_lt_mul (by omega)]
    omega
  omega
theorem knuth_ge {u v yn1 yn0 : Nat} (h1 : 2147483648 ≤ yn1) (hv : v < 4294967296) : (u * 4294967296 + v) / (yn1 * 4294967296 + yn0) ≤ u / yn1 := by
  rw [Nat.le_div_iff_mul_le (by omega)]
  have h3 := Nat.div_mul_le_self (u * 4294967296 + v) (yn1 * 4294967296 + yn0)
  generalize (u * 4294967296 + v) / (yn1 * 4294967296 + yn0) = q at *
  have h4 : q * (yn1 * 4294967296 + yn0) = q * yn1 * 4294967296 + q * yn0 := by rw [Nat.mul_add, Nat.mul_assoc]
  omega
/-- the loop goes on: one less still isn't too little -/
theorem knuth_more {u v yn1 yn0 q r : Nat} (hv : v < 4294967296) (hu : u < yn1 * 4294967296 + yn0) (hq : q * yn1 + r = u)
    (hc : 4294967296 ≤ q ∨ 4294967296 * r + v < q * yn0) : (u * 4294967296 + v) / (yn1 * 4294967296 + yn0) ≤ q - 1 ∧ 1 ≤ q := by
  have hy : 0 < yn1 * 4294967296 + yn0 := by omega
  have key : (u * 4294967296 + v) / (yn1 * 4294967296 + yn0) < q := by
    rw [Nat.div_lt_iff_lt_mul hy]
    rcases hc with hc | hc
    · have : 4294967296 * (yn1 * 4294967296 + yn0) ≤ q * (yn1 * 4294967296 + yn0) := Nat.mul_le_mul_right _ hc
      omega
    · have h4 : q * (yn1 * 4294967296 + yn0) = q * yn1 * 4294967296 + q * yn0 := by rw [Nat.mul_add, Nat.mul_assoc]
      omega
  generalize (u * 4294967296 + v) / (yn1 * 4294967296 + yn0) = z at *
  omega
/-- the loop ends: q is the quotient -/
theorem knuth_end {u v yn1 yn0 q r : Nat} (hq : q * yn1 + r = u) (hge : (u * 4294967296 + v) / (yn1 * 4294967296 + yn0) ≤ q) (hy : 0 < yn1)
    (hc : q * yn0 ≤ 4294967296 * r + v) : (u * 4294967296 + v) / (yn1 * 4294967296 + yn0) = q := by
  refine Nat.le_antisymm hge ?_
  rw [Nat.le_div_iff_mul_le (by omega)]
  have h4 : q * (yn1 * 4294967296 + yn0) = q * yn1 * 4294967296 + q * yn0 := by rw [Nat.mul_add, Nat.mul_assoc]
  omega
end Go.Fw

/- The calls of bits.Div64. -/
namespace Go.Proofs.Ytlapmbkfmbkdoaa
open Go Go.Fw Go.RowKit
attribute [local irreducible] Go.Oper.wp Go.Code.wp Go.wpList Go.Fw.WL Go.Calls
theorem and32n (x : Nat) : x &&& 4294967295 = x % 4294967296 := by
  rw [show (4294967295 : Nat) = 2 ^ 32 - 1 from rfl, Nat.and_two_pow_sub_one_eq_mod]
theorem div64_aux {N v y q r : Nat} (hy : 0 < y) (h1 : N = r * 4294967296 + v + y * (q * 4294967296)) : N / y = q * 4294967296 + (r * 4294967296 + v) / y ∧ N % y = (r * 4294967296 + v) % y := by
  rw [h1, Nat.add_mul_div_left _ _ hy, Nat.add_mul_mod_self_left]
  exact ⟨Nat.add_comm _ _, rfl⟩
theorem div64_law {hi lo y : Nat} (hy : 0 < y) : (hi * 18446744073709551616 + lo) / y = (hi * 4294967296 + lo / 4294967296) / y * 4294967296 + ((hi * 4294967296 + lo / 4294967296) % y * 4294967296 + lo % 4294967296) / y ∧
    (hi * 18446744073709551616 + lo) % y = ((hi * 4294967296 + lo / 4294967296) % y * 4294967296 + lo % 4294967296) % y := by
  refine div64_aux hy ?_
  have h1 := Nat.div_add_mod (hi * 4294967296 + lo / 4294967296) y
  have h2 : y * ((hi * 4294967296 + lo / 4294967296) / y * 4294967296) = y * ((hi * 4294967296 + lo / 4294967296) / y) * 4294967296 := by rw [Nat.mul_assoc]
  omega
theorem q_exit {u v y q r : Nat} (_hy : 9223372036854775808 ≤ y) (hv : v < 4294967296) (hu : u < y) (hq : q * (y / 4294967296) + r = u) (hge : (u * 4294967296 + v) / y ≤ q) (hq1 : q ≤ 4294967297) (hc : 4294967296 ≤ q ∨ 4294967296 * r + v < q * (y % 4294967296))
    (hr : 4294967296 ≤ r + y / 4294967296) : q - 1 = (u * 4294967296 + v) / y := by
  have e : y / 4294967296 * 4294967296 + y % 4294967296 = y := by omega
  rw [← e] at hge ⊢
  obtain ⟨h1, h2⟩ := knuth_more hv (by omega) hq hc
  have h2 : (u * 4294967296 + v) / (y / 4294967296 * 4294967296 + y % 4294967296) ≤ q - 1 ∧ 1 ≤ q := by
    have h5 : (u * 4294967296 + v) / (y / 4294967296 * 4294967296 + y % 4294967296) < q := Nat.lt_of_le_of_ne hge (by
      intro h6
      omega)
    omega
  have h3 : (q - 1) * (y / 4294967296) + (r + y / 4294967296) = u := by
    obtain ⟨m, rfl⟩ : ∃ m, q = m + 1 := ⟨q - 1, by omega⟩
    simp only [Nat.add_sub_cancel]
    rw [Nat.add_mul] at hq
    omega
  refine (knuth_end h3 h2.1 (by omega) ?_).symm
  have h4 : (q - 1) * (y % 4294967296) ≤ 4294967296 * (y % 4294967296) := Nat.mul_le_mul_right _ (by omega)
  omega
theorem q_stop {u v y q r : Nat} (hy : 9223372036854775808 ≤ y) (hq : q * (y / 4294967296) + r = u) (hge : (u * 4294967296 + v) / y ≤ q) (hc : ¬ (4294967296 ≤ q ∨ 4294967296 * r + v < q * (y % 4294967296))) : q = (u * 4294967296 + v) / y := by
  have e : y / 4294967296 * 4294967296 + y % 4294967296 = y := by omega
  rw [← e] at hge ⊢
  exact (knuth_end hq hge (by omega) (by omega)).symm
theorem q_next {u v y q r : Nat} (hv : v < 4294967296) (hu : u < y) (hq : q * (y / 4294967296) + r = u) (hge : (u * 4294967296 + v) / y ≤ q) (hc : 4294967296 ≤ q ∨ 4294967296 * r + v < q * (y % 4294967296)) : (u * 4294967296 + v) / y ≤ q - 1 ∧ (q - 1) * (y / 4294967296) + (r + y / 4294967296) = u ∧ 1 ≤ q := by
  have e : y / 4294967296 * 4294967296 + y % 4294967296 = y := by omega
  rw [← e] at hge ⊢
  obtain ⟨h1, h2⟩ := knuth_more hv (by omega) hq hc
  have e2 := e
  refine ⟨?_, ?_, h2⟩
  · simpa using h1
  · have e3 : (y / 4294967296 * 4294967296 + y % 4294967296) / 4294967296 = y / 4294967296 := by omega
    rw [e3]
    obtain ⟨m, rfl⟩ : ∃ m, q = m + 1 := ⟨q - 1, by omega⟩
    simp only [Nat.add_sub_cancel]
    rw [Nat.add_mul] at hq
    omega
theorem q_start {u v y : Nat} (hy : 9223372036854775808 ≤ y) (hv : v < 4294967296) (hu : u < y) : u / (y / 4294967296) * (y / 4294967296) + u % (y / 4294967296) = u ∧ (u * 4294967296 + v) / y ≤ u / (y / 4294967296) ∧ u / (y / 4294967296) ≤ 4294967297 := by
  have e : y / 4294967296 * 4294967296 + y % 4294967296 = y := by omega
  refine ⟨by have := Nat.div_add_mod u (y / 4294967296); rw [Nat.mul_comm]; exact this, ?_, knuth_first (by omega) (by omega : y % 4294967296 < 4294967296) (by omega)⟩
  have := knuth_ge (u := u) (v := v) (yn1 := y / 4294967296) (yn0 := y % 4294967296) (by omega) hv
  rw [e] at this
  exact this
theorem rest_is {a v p R : Nat} (h : a + v = p + R) (hR : R < 18446744073709551616) : ((a % 18446744073709551616 + v) % 18446744073709551616 + 18446744073709551616 - p % 18446744073709551616) % 18446744073709551616 = R := by omega
theorem sum_is {a b : Nat} (h : a * 4294967296 + b < 18446744073709551616) : (a * 4294967296 % 18446744073709551616 + b) % 18446744073709551616 = a * 4294967296 + b := by omega
theorem rest_of {u v y : Nat} : u * 4294967296 + v = (u * 4294967296 + v) / y * y + (u * 4294967296 + v) % y := by
  have := Nat.div_add_mod (u * 4294967296 + v) y
  rw [Nat.mul_comm ((u * 4294967296 + v) / y) y]; omega

end Go.Proofs.Ytlapmbkfmbkdoaa

/- The plain laws of wide.Text: division part by part, a chunk of decimals, turning a list round. No condition beyond each lemma's own. -/
namespace Go.Fw
open Go.RowKit
theorem step_div (u d C : Nat) (hC : 0 < C) : (u * 18446744073709551616 + d) / C = u / C * 18446744073709551616 + (u % C * 18446744073709551616 + d) / C ∧ (u * 18446744073709551616 + d) % C = (u % C * 18446744073709551616 + d) % C := by
  have h1 := Nat.div_add_mod u C
  have h2 : u * 18446744073709551616 + d = (u % C * 18446744073709551616 + d) + C * (u / C * 18446744073709551616) := by
    have h3 : C * (u / C * 18446744073709551616) = C * (u / C) * 18446744073709551616 := by rw [Nat.mul_assoc]
    omega
  rw [h2, Nat.add_mul_div_left _ _ hC, Nat.add_mul_mod_self_left]
  exact ⟨Nat.add_comm _ _, rfl⟩
theorem quo_lt (r d C : Nat) (hr : r < C) (hd : d < 18446744073709551616) : (r * 18446744073709551616 + d) / C < 18446744073709551616 := by
  rw [Nat.div_lt_iff_lt_mul (by omega)]
  have : (r + 1) * 18446744073709551616 ≤ C * 18446744073709551616 := Nat.mul_le_mul_right _ hr
  rw [Nat.mul_comm 18446744073709551616 C]
  omega
theorem dg_div (y C k : Nat) (hC : 0 < C) (hk : 0 < k) : dg (y / C) (k - 1) = (y / 18446744073709551616 ^ k % C * 18446744073709551616 + dg y (k - 1)) / C := by
  have h1 := div_dg y k hk
  have h2 := step_div (y / 18446744073709551616 ^ k) (dg y (k - 1)) C hC
  have h3 := quo_lt (y / 18446744073709551616 ^ k % C) (dg y (k - 1)) C (Nat.mod_lt _ hC) (dg_lt _ _)
  have h4 : y / C / 18446744073709551616 ^ (k - 1) = y / 18446744073709551616 ^ (k - 1) / C := by rw [Nat.div_div_eq_div_mul, Nat.div_div_eq_div_mul, Nat.mul_comm]
  rw [show dg (y / C) (k - 1) = y / C / 18446744073709551616 ^ (k - 1) % 18446744073709551616 from rfl, h4, h1, Nat.mul_comm 18446744073709551616, h2.1, Nat.add_comm, Nat.add_mul_mod_self_right, Nat.mod_eq_of_lt h3]
theorem rem_div (y C k : Nat) (hC : 0 < C) (hk : 0 < k) : (y / 18446744073709551616 ^ k % C * 18446744073709551616 + dg y (k - 1)) % C = y / 18446744073709551616 ^ (k - 1) % C := by
  rw [div_dg y k hk, Nat.mul_comm 18446744073709551616, (step_div (y / 18446744073709551616 ^ k) (dg y (k - 1)) C hC).2]
def quo4 (y C k : Nat) : Nat → Nat := fun m => if m < k then dg y m else dg (y / C) m
theorem quo4_4 (y C : Nat) : cells4 (quo4 y C 4) = wc y := cells4_congr fun k hk => by unfold quo4; rw [if_pos hk]
theorem quo4_0 (y C : Nat) : cells4 (quo4 y C 0) = wc (y / C) := cells4_congr fun k _ => by unfold quo4; rw [if_neg (by omega)]
theorem quo4_at (y C k : Nat) (hk : 0 < k) : quo4 y C k (k - 1) = dg y (k - 1) := by unfold quo4; rw [if_pos (by omega)]
theorem quo4_step (y C k : Nat) (hC : 0 < C) (hk : 0 < k) : upd8 (quo4 y C k) (k - 1) ((y / 18446744073709551616 ^ k % C * 18446744073709551616 + dg y (k - 1)) / C) = quo4 y C (k - 1) := by
  funext m
  rw [← dg_div y C k hC hk]
  unfold upd8 quo4
  by_cases h : m = k - 1
  · subst h; rw [if_pos rfl, if_neg (by omega)]
  · rw [if_neg h]
    by_cases h2 : m < k
    · rw [if_pos h2, if_pos (by omega)]
    · rw [if_neg h2, if_neg (by omega)]
/-- the decimals as bytes -/
def dch (l : List Nat) : List Value := byts (l.map (48 + ·))
theorem length_dch (l : List Nat) : (dch l).length = l.length := by simp [dch, length_byts]
theorem dch_snoc (l : List Nat) (b : Nat) : dch l ++ [.int .u8 ((48 + b : Nat) : Int)] = dch (l ++ [b]) := by unfold dch; rw [byts_snoc]; simp
theorem dch_take (l : List Nat) (k : Nat) : (dch l).take k = dch (l.take k) := by unfold dch; rw [byts_take, List.map_take]
theorem dch_get (l : List Nat) (i : Nat) (h : i < l.length) : (dch l)[i]? = some (.int .u8 ((48 + l.getD i 0 : Nat) : Int)) := by
  unfold dch
  rw [byts_get _ _ (by simpa using h)]
  simp [List.getD_eq_getElem?_getD, h]
theorem chunk_step {m : List Nat} {r T : Nat} (h : val10 m + 10 ^ m.length * r = T) : val10 (m ++ [r % 10]) + 10 ^ (m ++ [r % 10]).length * (r / 10) = T := by
  rw [val10_snoc, List.length_append, List.length_singleton, Nat.pow_succ, ← h]
  have h1 : 10 ^ m.length * 10 * (r / 10) = 10 ^ m.length * (10 * (r / 10)) := by rw [Nat.mul_assoc]
  have h2 : 10 ^ m.length * (r % 10 + 10 * (r / 10)) = 10 ^ m.length * (r % 10) + 10 ^ m.length * (10 * (r / 10)) := by rw [Nat.mul_add]
  have h3 : r % 10 + 10 * (r / 10) = r := by omega
  rw [h3] at h2
  omega
theorem chunk_end {l m : List Nat} {r x y : Nat} (h : val10 m + 10 ^ m.length * r = val10 l + 10 ^ l.length * (y % 10000000000000000000)) (hr : r = 0) (hm : m.length = l.length + 19) (hv : val10 l + 10 ^ l.length * y = x) :
    val10 m + 10 ^ m.length * (y / 10000000000000000000) = x := by
  subst hr
  rw [Nat.mul_zero, Nat.add_zero] at h
  rw [hm, Nat.pow_add, h, ← hv]
  have h1 : 10 ^ l.length * 10 ^ 19 * (y / 10000000000000000000) = 10 ^ l.length * (10000000000000000000 * (y / 10000000000000000000)) := by rw [Nat.mul_assoc]
  have h2 : 10 ^ l.length * (y % 10000000000000000000 + 10000000000000000000 * (y / 10000000000000000000)) = 10 ^ l.length * (y % 10000000000000000000) + 10 ^ l.length * (10000000000000000000 * (y / 10000000000000000000)) := by rw [Nat.mul_add]
  have h3 : y % 10000000000000000000 + 10000000000000000000 * (y / 10000000000000000000) = y := by omega
  rw [h3] at h2
  omega
theorem chunk_lt {r j : Nat} (hj : j < 19) (h : r < 10 ^ (19 - j)) : r / 10 < 10 ^ (19 - (j + 1)) := by
  rw [show 19 - j = 19 - (j + 1) + 1 from by omega, Nat.pow_succ] at h
  omega
theorem few_dec {l : List Nat} {x y : Nat} (hx : x < 115792089237316195423570985008687907853269984665640564039457584007913129639936) (hv : val10 l + 10 ^ l.length * y = x) (h : y ≠ 0 ∨ l.length = 0) : l.length ≤ 77 := by
  rcases h with h | h
  · refine Nat.le_of_not_lt fun hl => ?_
    have h1 : 10 ^ 78 ≤ 10 ^ l.length := Nat.pow_le_pow_right (by decide) hl
    have h2 : 10 ^ l.length ≤ 10 ^ l.length * y := Nat.le_mul_of_pos_right _ (by omega)
    have h3 : (115792089237316195423570985008687907853269984665640564039457584007913129639936 : Nat) < 10 ^ 78 := by decide
    omega
  · omega
theorem own_open {s : Seg} {A : Option Addr} {n c : Nat} {cells : List Value} {E : TypeId} {sz : Nat} (h : OwnS s A n c cells E sz) (hn : 0 < n) : ∃ g rest, A = some ⟨g, 0, none⟩ ∧ s = [(g, Cel (cells ++ rest) E)] ∧ n ≤ c ∧ c ≤ maxLen := by
  obtain ⟨_, h2, h3⟩ := h
  rcases h3 with ⟨_, h4, _⟩ | ⟨g, rest, h5, h6, _, h8⟩
  · omega
  · exact ⟨g, rest, h5, h6, h2, h8⟩
theorem own_drop {s : Seg} {A : Option Addr} {c : Nat} {z : List Nat} (h : OwnS s A z.length c (dch z) 5 1) : OwnS s A z.dropLast.length c (dch z.dropLast) 5 1 := by
  have := h.take (k := z.length - 1) (by omega)
  rw [Nat.mul_one, dch_take] at this
  rw [List.length_dropLast, List.dropLast_eq_take]
  exact this
theorem strip {z : List Nat} (hl : 1 < z.length) (h0 : z.getD (z.length - 1) 0 = 0) : val10 z.dropLast = val10 z := by
  have hne : z ≠ [] := by intro e; simp [e] at hl
  have h1 := List.dropLast_concat_getLast hne
  have h2 : z.getLast hne = 0 := by rw [List.getLast_eq_getElem]; rw [List.getD_eq_getElem?_getD, List.getElem?_eq_getElem (by omega)] at h0; exact h0
  conv => rhs; rw [← h1, val10_snoc, h2]
  simp
theorem stripped {z : List Nat} {x : Nat} (hd : Dig z) (hv : val10 z = x) (hl : 0 < z.length) (h : ¬ (1 < z.length ∧ z.getD (z.length - 1) 0 = 0)) : dec x = z := by
  have hne : z ≠ [] := by intro e; simp [e] at hl
  rw [← hv]
  refine dec_val hd hne ?_
  by_cases h1 : 1 < z.length
  · refine .inr fun h2 => h ⟨h1, ?_⟩
    rw [List.getD_eq_getElem?_getD, List.getElem?_eq_getElem (by omega), ← List.getLast_eq_getElem hne, h2]; rfl
  · exact .inl (by omega)
theorem dig_dropLast {z : List Nat} (h : Dig z) : Dig z.dropLast := fun b hb => h b (List.dropLast_subset _ hb)
/-- the first i and the last i turned round -/
def swp (z : List Nat) (i : Nat) : List Nat := (List.range z.length).map fun p => if p < i ∨ z.length - 1 - p < i then z.getD (z.length - 1 - p) 0 else z.getD p 0
theorem length_swp (z : List Nat) (i : Nat) : (swp z i).length = z.length := by simp [swp]
theorem swp_get (z : List Nat) (i p : Nat) (h : p < z.length) : (swp z i)[p]? = some (if p < i ∨ z.length - 1 - p < i then z.getD (z.length - 1 - p) 0 else z.getD p 0) := by
  simp [swp, h]
theorem swp_0 (z : List Nat) : swp z 0 = z := by
  apply List.ext_getElem?
  intro p
  by_cases h : p < z.length
  · rw [swp_get z 0 p h]; simp [h]
  · rw [List.getElem?_eq_none (by rw [length_swp]; omega), List.getElem?_eq_none (by omega)]
theorem swp_end (z : List Nat) (i : Nat) (h : z.length ≤ 2 * i + 1) : swp z i = z.reverse := by
  apply List.ext_getElem?
  intro p
  by_cases hp : p < z.length
  · rw [swp_get z i p hp, List.getElem?_reverse hp, List.getElem?_eq_getElem (by omega)]
    congr 1
    split
    · rw [List.getD_eq_getElem?_getD, List.getElem?_eq_getElem (by omega)]; rfl
    · have : z.length - 1 - p = p := by omega
      simp [this]
      rw [List.getElem?_eq_getElem hp]; rfl
  · rw [List.getElem?_eq_none (by rw [length_swp]; omega), List.getElem?_eq_none (by simp; omega)]
theorem swp_at (z : List Nat) (rest : List Value) (i p : Nat) (hp : p < z.length) (h1 : i ≤ p) (h2 : i ≤ z.length - 1 - p) (off : Nat) (ho : off = p) : (dch (swp z i) ++ rest)[off]? = some (.int .u8 ((48 + z.getD p 0 : Nat) : Int)) := by
  subst ho
  rw [List.getElem?_append_left (by rw [length_dch, length_swp]; exact hp), dch_get _ _ (by rw [length_swp]; exact hp), List.getD_eq_getElem?_getD, swp_get z i off hp, if_neg (by omega)]
  rfl
theorem swp_step (z : List Nat) (rest : List Value) (i o1 o2 : Nat) (h : i + i + 1 < z.length) (h1 : o1 = i) (h2 : o2 = z.length - 1 - i) :
    ((dch (swp z i) ++ rest).set o1 (.int .u8 ((48 + z.getD (z.length - 1 - i) 0 : Nat) : Int))).set o2 (.int .u8 ((48 + z.getD i 0 : Nat) : Int)) = dch (swp z (i + 1)) ++ rest := by
  have h1 := h1.symm
  have h2 := h2.symm
  subst h1; subst h2
  apply List.ext_getElem?
  intro p
  rw [List.getElem?_set, List.getElem?_set]
  by_cases hp : p < z.length
  · rw [List.getElem?_append_left (l₁ := dch (swp z (i + 1))) (by rw [length_dch, length_swp]; exact hp), List.getElem?_append_left (by rw [length_dch, length_swp]; exact hp), dch_get _ _ (by rw [length_swp]; exact hp), dch_get _ _ (by rw [length_swp]; exact hp)]
    simp only [List.getD_eq_getElem?_getD (l := swp z _), swp_get z _ p hp]
    simp only [List.length_set, List.length_append, length_dch, length_swp]
    by_cases e1 : z.length - 1 - i = p
    · rw [if_pos e1, if_pos (by omega), if_pos (show p < i + 1 ∨ z.length - 1 - p < i + 1 by omega), show z.length - 1 - p = i by omega]; rfl
    · rw [if_neg e1]
      by_cases e2 : i = p
      · rw [if_pos e2, if_pos (by omega), if_pos (show p < i + 1 ∨ z.length - 1 - p < i + 1 by omega), e2]; rfl
      · rw [if_neg e2]
        by_cases e3 : p < i ∨ z.length - 1 - p < i
        · rw [if_pos e3, if_pos (by omega)]
        · rw [if_neg e3, if_neg (by omega)]
  · rw [if_neg (by omega), if_neg (by omega), List.getElem?_append_right (by rw [length_dch, length_swp]; omega), List.getElem?_append_right (by rw [length_dch, length_swp]; omega), length_dch, length_dch, length_swp, length_swp]
end Go.Fw

/- The calls of wide.Text. -/
namespace Go.Proofs.Ytlapmbkfmbkdoaa
open Go Go.Fw Go.RowKit
attribute [local irreducible] Go.Oper.wp Go.Code.wp Go.wpList Go.Fw.WL Go.Calls
theorem own_snoc {s : Seg} {A : Option Addr} {c b : Nat} {m : List Nat} (h : OwnS s A (m.length + 1) c (dch m ++ [.int .u8 ((48 + b : Nat) : Int)]) 5 1) : OwnS s A (m ++ [b]).length c (dch (m ++ [b])) 5 1 := by
  rw [dch_snoc] at h
  rw [List.length_append, List.length_singleton]
  exact h

end Go.Proofs.Ytlapmbkfmbkdoaa

/- The calls of wide.Parse. -/
namespace Go.Proofs.Ytlapmbkfmbkdoaa
open Go Go.Fw Go.RowKit
attribute [local irreducible] Go.Oper.wp Go.Code.wp Go.wpList Go.Fw.WL Go.Calls
/-- the number that decimals are -/
def num (xs : List Nat) : Nat := xs.foldl (fun a b => 10 * a + (b - 48)) 0
def isD (b : Nat) : Bool := Nat.ble 48 b && Nat.ble b 57
def allD (xs : List Nat) : Bool := xs.all isD
/-- a text's number, if it is one -/
def prs (xs : List Nat) : Option Nat := if xs.length = 0 ∨ (xs.getD 0 0 = 48 ∧ ¬ xs.length = 1) ∨ allD xs = false ∨ 115792089237316195423570985008687907853269984665640564039457584007913129639936 ≤ num xs then none else some (num xs)
def prsW (xs : List Nat) : Value := .tuple #[wv ((prs xs).getD 0), .int .i64 (if (prs xs).isSome then 0 else 21)]
theorem num_snoc (xs : List Nat) (b : Nat) : num (xs ++ [b]) = 10 * num xs + (b - 48) := by simp [num]
theorem num_append_ge (xs ys : List Nat) : num xs ≤ num (xs ++ ys) := by
  unfold num
  rw [List.foldl_append]
  generalize xs.foldl (fun a b => 10 * a + (b - 48)) 0 = n
  have : ∀ (ys : List Nat) (n m : Nat), n ≤ m → n ≤ ys.foldl (fun a b => 10 * a + (b - 48)) m := by
    intro ys
    induction ys with
    | nil => intro n m h; exact h
    | cons b r ih => intro n m h; exact ih n _ (by show n ≤ 10 * m + (b - 48); omega)
  exact this ys n n (Nat.le_refl _)
theorem num_take_le (xs : List Nat) (k : Nat) : num (xs.take k) ≤ num xs := by
  have := num_append_ge (xs.take k) (xs.drop k)
  rwa [List.take_append_drop] at this
theorem take_succ_getD (xs : List Nat) (k : Nat) (h : k < xs.length) : xs.take (k + 1) = xs.take k ++ [xs.getD k 0] := by
  rw [List.take_succ_eq_append_getElem h, List.getD_eq_getElem?_getD, List.getElem?_eq_getElem h]; rfl
theorem num_take (xs : List Nat) (k : Nat) (h : k < xs.length) : num (xs.take (k + 1)) = num (xs.take k) * 10 + (xs.getD k 0 - 48) := by
  rw [take_succ_getD xs k h, num_snoc, Nat.mul_comm]
theorem allD_take (xs : List Nat) (k : Nat) (h : k < xs.length) (h1 : allD (xs.take k) = true) (h2 : ¬ (xs.getD k 0 < 48 ∨ 57 < xs.getD k 0)) : allD (xs.take (k + 1)) = true := by
  rw [take_succ_getD xs k h]
  unfold allD at *
  rw [List.all_append, h1]
  simp only [List.all_cons, List.all_nil, isD, Bool.and_true, Bool.true_and, Bool.and_eq_true, Nat.ble_eq]
  omega
theorem allD_bad (xs : List Nat) (k : Nat) (h : k < xs.length) (h2 : xs.getD k 0 < 48 ∨ 57 < xs.getD k 0) : allD xs = false := by
  cases hb : allD xs
  · rfl
  · have := List.all_eq_true.1 hb (xs.getD k 0) (by rw [List.getD_eq_getElem?_getD, List.getElem?_eq_getElem h]; exact List.getElem_mem h)
    simp only [isD, Bool.and_eq_true, Nat.ble_eq] at this
    omega
theorem prs_bad0 {xs : List Nat} (h : xs.length = 0 ∨ (xs.getD 0 0 = 48 ∧ ¬ xs.length = 1)) : prs xs = none := by
  unfold prs; rw [if_pos]; rcases h with h | h
  · exact .inl h
  · exact .inr (.inl h)
theorem prs_badD {xs : List Nat} (h : allD xs = false) : prs xs = none := by unfold prs; rw [if_pos (.inr (.inr (.inl h)))]
theorem prs_big {xs : List Nat} (h : 115792089237316195423570985008687907853269984665640564039457584007913129639936 ≤ num xs) : prs xs = none := by unfold prs; rw [if_pos (.inr (.inr (.inr h)))]
theorem prs_good {xs : List Nat} (h0 : ¬ (xs.length = 0 ∨ (xs.getD 0 0 = 48 ∧ ¬ xs.length = 1))) (h1 : allD xs = true) (h2 : num xs < 115792089237316195423570985008687907853269984665640564039457584007913129639936) : prs xs = some (num xs) := by
  unfold prs
  rw [if_neg]
  rintro (h | h | h | h)
  · exact h0 (.inl h)
  · exact h0 (.inr h)
  · rw [h1] at h; simp at h
  · omega
theorem prs_lt {xs : List Nat} {n : Nat} (h : prs xs = some n) : n < 115792089237316195423570985008687907853269984665640564039457584007913129639936 := by
  unfold prs at h
  split at h
  · simp at h
  · rename_i h2; simp only [Option.some.injEq] at h; omega
theorem str_0 (s : ByteArray) : s = ⟨#[]⟩ ↔ s.size = 0 := by
  constructor
  · rintro rfl; rfl
  · intro h; apply bys_inj; have h2 : (bys s).length = 0 := by rw [length_bys]; exact h
    rw [List.eq_nil_of_length_eq_zero h2]; rfl
theorem str_1 (s : ByteArray) (h : (bys s).getD 0 0 = 48) (h0 : ¬ s.size = 0) : s = ⟨#[48]⟩ ↔ s.size = 1 := by
  constructor
  · rintro rfl; rfl
  · intro h1; apply bys_inj; have h2 : (bys s).length = 1 := by rw [length_bys]; exact h1
    obtain ⟨b, e⟩ := List.length_eq_one_iff.1 h2
    rw [e] at h ⊢
    simp at h
    rw [h]; rfl
theorem few_chr {n i : Nat} (hn : n < 115792089237316195423570985008687907853269984665640564039457584007913129639936) (h : 10 ^ i ≤ 10 * n) : i ≤ 78 := by
  refine Nat.le_of_not_lt fun hl => ?_
  have h1 : 10 ^ 79 ≤ 10 ^ i := Nat.pow_le_pow_right (by decide) hl
  have h3 : 10 * 115792089237316195423570985008687907853269984665640564039457584007913129639936 < 10 ^ 79 := by decide
  omega
theorem num_grows {xs : List Nat} {m i : Nat} (_hl : xs.length = m) (h0 : ¬ (m = 0 ∨ (xs.getD 0 0 = 48 ∧ ¬ m = 1))) (hi : i < m ∧ 48 ≤ xs.getD i 0) (hn : num (xs.take (i + 1)) = num (xs.take i) * 10 + (xs.getD i 0 - 48)) (h : i = 0 ∨ m = 1 ∨ 10 ^ i ≤ 10 * num (xs.take i)) : i + 1 = 0 ∨ m = 1 ∨ 10 ^ (i + 1) ≤ 10 * num (xs.take (i + 1)) := by
  by_cases hm : m = 1
  · exact .inr (.inl hm)
  · refine .inr (.inr ?_)
    rcases h with rfl | h | h
    · simp only [Nat.zero_add, Nat.pow_one, List.take_zero] at hn ⊢
      simp only [num, List.foldl_nil, Nat.zero_mul] at hn
      unfold num
      omega
    · exact absurd h hm
    · rw [Nat.pow_succ]; omega

end Go.Proofs.Ytlapmbkfmbkdoaa

/- The calls of law 2's known. -/
namespace Go.Proofs.Ytlapmbkfmbkdoaa
open Go Go.Fw Go.RowKit
attribute [local irreducible] Go.Oper.wp Go.Code.wp Go.wpList Go.Fw.WL Go.Calls
def topS : ByteArray := ⟨#[49, 49, 53, 55, 57, 50, 48, 56, 57, 50, 51, 55, 51, 49, 54, 49, 57, 53, 52, 50, 51, 53, 55, 48, 57, 56, 53, 48, 48, 56, 54, 56, 55, 57, 48, 55, 56, 53, 51, 50, 54, 57, 57, 56, 52, 54, 54, 53, 54, 52, 48, 53, 54, 52, 48, 51, 57, 52, 53, 55, 53, 56, 52, 48, 48, 55, 57, 49, 51, 49, 50, 57, 54, 51, 57, 57, 51, 53]⟩
theorem dec_top : dec 115792089237316195423570985008687907853269984665640564039457584007913129639935 = [5, 3, 9, 9, 3, 6, 9, 2, 1, 3, 1, 9, 7, 0, 0, 4, 8, 5, 7, 5, 4, 9, 3, 0, 4, 6, 5, 0, 4, 6, 5, 6, 6, 4, 8, 9, 9, 6, 2, 3, 5, 8, 7, 0, 9, 7, 8, 6, 8, 0, 0, 5, 8, 9, 0, 7, 5, 3, 2, 4, 5, 9, 1, 6, 1, 3, 7, 3, 2, 9, 8, 0, 2, 9, 7, 5, 1, 1] := by
  have h := dec_val (xs := [5, 3, 9, 9, 3, 6, 9, 2, 1, 3, 1, 9, 7, 0, 0, 4, 8, 5, 7, 5, 4, 9, 3, 0, 4, 6, 5, 0, 4, 6, 5, 6, 6, 4, 8, 9, 9, 6, 2, 3, 5, 8, 7, 0, 9, 7, 8, 6, 8, 0, 0, 5, 8, 9, 0, 7, 5, 3, 2, 4, 5, 9, 1, 6, 1, 3, 7, 3, 2, 9, 8, 0, 2, 9, 7, 5, 1, 1]) (by unfold Dig; decide) (by decide) (.inr (by decide))
  rwa [show val10 [5, 3, 9, 9, 3, 6, 9, 2, 1, 3, 1, 9, 7, 0, 0, 4, 8, 5, 7, 5, 4, 9, 3, 0, 4, 6, 5, 0, 4, 6, 5, 6, 6, 4, 8, 9, 9, 6, 2, 3, 5, 8, 7, 0, 9, 7, 8, 6, 8, 0, 0, 5, 8, 9, 0, 7, 5, 3, 2, 4, 5, 9, 1, 6, 1, 3, 7, 3, 2, 9, 8, 0, 2, 9, 7, 5, 1, 1] = 115792089237316195423570985008687907853269984665640564039457584007913129639935 from by decide +kernel] at h
theorem txt_top : bstr (txt 115792089237316195423570985008687907853269984665640564039457584007913129639935) = topS := by
  unfold txt
  rw [dec_top]
  rfl
theorem prs_top : prs (bys topS) = some 115792089237316195423570985008687907853269984665640564039457584007913129639935 := by decide +kernel
theorem k_add (w : World) : Ret Try.prog 81 [wv 18446744073709551615, wv 1] w [] (fun v s => v = .tuple #[wv 18446744073709551616, .int .i64 0] ∧ s = []) := add_calls _ _ w (by decide) (by decide)
theorem k_sub (w : World) : Ret Try.prog 82 [wv 340282366920938463463374607431768211456, wv 1] w [] (fun v s => v = .tuple #[wv 340282366920938463463374607431768211455, .int .i64 0] ∧ s = []) := sub_calls _ _ w (by decide) (by decide)
theorem k_div (w : World) : Ret Try.prog 84 [wv 17, wv 5] w [] (fun v s => v = .tuple #[wv 3, wv 2, .int .i64 0] ∧ s = []) := div_calls _ _ w (by decide) (by decide)

end Go.Proofs.Ytlapmbkfmbkdoaa
