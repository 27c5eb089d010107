/- '==' on structs. No condition beyond each lemma's own. -/
import Derived.Test.YtlapmbkfmbkdoaaFa
namespace Go.Fw
section
variable {P : Program} {w : World} {T E : TypeId} {d : Nat}
theorem forIn_allE {α : Type} (c : α → Bool) (body : α → Option Bool × Unit → Sem (ForInStep (Option Bool × Unit))) (l : Array α)
    (h : ∀ i ∈ l.toList, (body i (none, ())).run P w = .ok (if c i then .yield (none, ()) else .done (some false, ())) w) :
    (forIn l (none, ()) body).run P w = .ok (if l.toList.all c then (none, ()) else (some false, ())) w := by
  rw [← Array.forIn_toList]
  exact forIn_all c body l.toList h
theorem eq_str {fs : Array Field} (hT : P.underlying T = some (.struct fs)) (hs : P.stoodInHeld T = false) (xs ys : Array Value) (c : Field → Bool) (u v : Field → Value)
    (hn : ∀ f ∈ fs.toList, f.name ≠ "_") (hx : ∀ f ∈ fs.toList, ∀ w, (part f.type xs f.offset).run P w = .ok (u f) w) (hy : ∀ f ∈ fs.toList, ∀ w, (part f.type ys f.offset).run P w = .ok (v f) w) (hc : ∀ f ∈ fs.toList, EqOk P d f.type (u f) (v f) (c f)) :
    EqOk P (d + 1) T (.agg xs) (.agg ys) (fs.toList.all c) := by
  intro w
  rw [Op.equalIn]
  simp only [Sem.run_bind, run_underlying hT, Result.andThen_ok, run_program, hs, Bool.false_eq_true, if_false]
  rw [forIn_allE c]
  · cases fs.toList.all c <;> rfl
  · intro f hf
    simp only [hn f hf, ne_eq, not_false_eq_true, if_true, Sem.run_bind, hx f hf, hy f hf, Result.andThen_ok, hc f hf w]
    cases c f <;> rfl
end
end Go.Fw
namespace Go.Proofs.Ytlapmbkfmbkdoaa
open Go Go.Fw Go.RowKit
end Go.Proofs.Ytlapmbkfmbkdoaa
