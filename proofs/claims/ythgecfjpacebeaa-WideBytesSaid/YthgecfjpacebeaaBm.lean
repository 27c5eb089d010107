/- Slices of whole arrays; copy from one own block into another. No condition beyond each lemma's own. -/
import Derived.Test.YthgecfjpacebeaaBl
namespace Go.Fw
open Go.RowKit
section
variable {P : Program} {ops : Array Oper} {Q : Exit → Act → World → Prop} {a : Act} {w w' w0 : World} {env : Env} {d N : Nat} {K : Act → World → Prop}
variable {ρ : Operand → Value} {dst : Option Tmp} {ty : TypeId} {pos : String} {af : Array Edge} {g : Option (Nat × Bool)} {x y : Operand} {T E T1 T2 : TypeId}
variable {ks : List Nat} {bs bs' : List Seg} {b n sz c m c2 : Nat} {l l' cs : List Value} {B : Option Addr}
theorem R.sliceAll (hT : P.underlying T = some (.array n E)) (hs : szT P E sz) (hx : ρ x = .pointer (some ⟨b, 0, none⟩)) :
    (execOp ρ ⟨dst, .slice T x none none none, ty, pos, af, g⟩).run P w = .ok (.value (.slice (some ⟨b, 0, none⟩) n n)) w := by
  have e : (if n = 0 then (⟨b, 0, none⟩ : Addr) else (⟨b, 0, none⟩ : Addr).add (0 * sz)) = ⟨b, 0, none⟩ := by simp [Addr.add]
  simp only [execOp, hx, Option.map_none, Instr.sliceAt, Instr.sureAddr, run_underlying hT, Instr.sliceBounds, run_sizeOf' hs,
    Sem.run_bind, Sem.run_pure, Result.andThen_ok, e, Nat.sub_zero]
/-- copy: the first cells of what is read stand in the block; elements of one cell -/
theorem O.copy {cs : List Value} (hd : dst = some d) (hn : Nat.blt d N = true) (hF : Fr N env a) (hT : P.underlying T1 = some (.slice E)) (hs : szT P E 1) (hx : a.eval x = .slice (some ⟨b, 0, none⟩) n c) (hy : a.eval y = .slice B m c2)
    (hS : St w0 ks bs w) (hB : Rd w B cs) (hm : cs.length = m) (hmn : m ≤ n) (hm0 : 0 < m) (hv : ∀ v ∈ cs, v.oneCell' = true) {E2 : TypeId} (hu : UpB bs b (Cel l E2) (Cel l' E2) bs') (hl : spl l 0 cs = l') (hlt : cs.length ≤ l.length)
    (h : ∀ a' w', Fr N ((d, .int .i64 (m : Int)) :: env) a' → St w0 ks bs' w' → K a' w') :
    Oper.wp P ⟨dst, .call ⟨.builtin .copy, [x, y].toArray, [T1, T2].toArray⟩, ty, pos, af, g⟩ a w K Q := by
  subst hd
  have hb := hS.get hu.has
  have hst := run_storeCells_Cel (P := P) cs 0 0 w l hb (by omega) hv
  rw [Nat.add_zero, hl] at hst
  cases B with
  | none =>
    obtain ⟨_, h1, _⟩ := hB 0 cs[0] (by simp [hm, hm0])
    exact absurd h1 (by simp)
  | some s =>
    have hld : (loadCells s m).run P w = .ok cs.toArray w := by
      have := run_loadCells_list (P := P) (w := w) s cs (fun j v hj => by
        obtain ⟨a', h1, h2⟩ := hB j v hj
        simp only [Option.some.injEq] at h1
        rw [h1]; exact h2)
      rw [← hm]; exact this
    have hmin : Nat.min m n = m := Nat.min_eq_left hmn
    unfold Oper.wp
    have : (execOp a.eval ⟨some d, .call ⟨.builtin .copy, [x, y].toArray, [T1, T2].toArray⟩, ty, pos, af, g⟩).run P w = .ok (.value (.int .i64 (m : Int))) (World.setB w b (Cel l' E2)) := by
      simp [execOp, resolve, invoke, builtin, Builtin.copy_, hx, hy, run_underlying hT, Builtin.lenOf, Builtin.firstCells, run_sizeOf' hs, goInt, Sem.run_bind, Result.andThen_ok, hmin, hld, hst]
    rw [this, Oper.upon_value]
    exact h _ _ (hF.put hn _) (hS.setB hu)
end
end Go.Fw
