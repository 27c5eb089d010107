/- What a gift's script answers, in plain terms. No condition beyond each lemma's own. -/
import Derived.Test.YthgecfjpacebeaaX
namespace Go.Fw
theorem updF_same {α : Type} (f : Int → α) (n : Int) (v : α) : updF f n v n = v := by simp [updF]
theorem updF_ne {α : Type} (f : Int → α) {n m : Int} (v : α) (h : m ≠ n) : updF f n v m = f m := by simp [updF, h]

section
variable {V : Vau} {t i j : Int} {a b x : Nat} {s : Bool}
theorem err_0 (h0 : 0 ≤ t) (h1 : t < 64) (hs : V.tok t = some (s, x)) : V.err t = 0 := by simp [Vau.err, h0, h1, hs]
theorem list_new (h0 : 0 ≤ t) (h1 : t < 64) : Vau.new.list t = ({ Vau.new with tok := updF Vau.new.tok t (some (false, 0)) }, 0) := by
  simp [Vau.list, h0, h1, Vau.new]
theorem deposit_ok (h0 : 0 ≤ t) (h1 : t < 64) (hs : V.tok t = some (false, x)) (ha : a ≠ 0) (hx : x + a < 115792089237316195423570985008687907853269984665640564039457584007913129639936) :
    V.deposit t a = ({ V with tok := updF V.tok t (some (false, x + a)) }, 0) := by
  simp only [Vau.deposit, err_0 h0 h1 hs, hs, tS, tH, Option.map_some, Option.getD_some, ha, hx]; simp
theorem deposit_0 (h0 : 0 ≤ t) (h1 : t < 64) (hs : V.tok t = some (false, x)) : V.deposit t 0 = (V, 144) := by
  simp only [Vau.deposit, err_0 h0 h1 hs, hs, tS, Option.map_some, Option.getD_some]; simp
theorem pay_ok (h0 : 0 ≤ t) (h1 : t < 64) (hs : V.tok t = some (s, x)) (g0 : 0 ≤ i) (g1 : i < 1099511627776) (hp : V.paid i = false) (hx : a ≤ x) :
    V.pay i t a = ({ V with tok := updF V.tok t (some (s, x - a)), paid := updF V.paid i true }, 0) := by
  simp only [Vau.pay, err_0 h0 h1 hs, hs, tS, tH, Option.map_some, Option.getD_some, hp, hx]
  rw [if_neg (by omega)]; simp
theorem pay_no (h0 : 0 ≤ t) (h1 : t < 64) (hs : V.tok t = some (s, x)) (g0 : 0 ≤ i) (g1 : i < 1099511627776) (hp : V.paid i = false) (hx : ¬ a ≤ x) :
    V.pay i t a = (V, 146) := by
  simp only [Vau.pay, err_0 h0 h1 hs, hs, tH, Option.map_some, Option.getD_some, hp, if_neg hx]
  rw [if_neg (by omega)]; simp
theorem stop_ok (h0 : 0 ≤ t) (h1 : t < 64) (hs : V.tok t = some (false, x)) : V.stop t true = ({ V with tok := updF V.tok t (some (true, x)) }, 0) := by
  simp only [Vau.stop, err_0 h0 h1 hs, hs, tS, tH, Option.map_some, Option.getD_some]; simp
end

/-- what comes out of a gift's seven calls -/
structure GiftSays (t i j : Int) (a b : Nat) : Prop where
  e : (Vau.new.list t).2 = 0
  f : ((Vau.new.list t).1.deposit t a).2 = if a = 0 then 144 else 0
  g : ((((Vau.new.list t).1.deposit t a).1).pay i t b).2 = if b ≤ a then 0 else 146
  p : ((((Vau.new.list t).1.deposit t a).1).pay i t b).1.paid i = decide (b ≤ a)
  h : (((((Vau.new.list t).1.deposit t a).1).pay i t b).1.stop t true).2 = 0
  x : ((((((Vau.new.list t).1.deposit t a).1).pay i t b).1.stop t true).1.pay j t (tH ((((((Vau.new.list t).1.deposit t a).1).pay i t b).1.stop t true).1.tok t))).2 = 0
  z : tH (((((((((Vau.new.list t).1.deposit t a).1).pay i t b).1.stop t true).1.pay j t (tH ((((((Vau.new.list t).1.deposit t a).1).pay i t b).1.stop t true).1.tok t))).1.lockIt a).1.free b).1.tok t) = 0
  y : (((((((Vau.new.list t).1.deposit t a).1).pay i t b).1.stop t true).1.pay j t (tH ((((((Vau.new.list t).1.deposit t a).1).pay i t b).1.stop t true).1.tok t))).1.lockIt a).2 = 0
  u : ((((((((Vau.new.list t).1.deposit t a).1).pay i t b).1.stop t true).1.pay j t (tH ((((((Vau.new.list t).1.deposit t a).1).pay i t b).1.stop t true).1.tok t))).1.lockIt a).1.free b).2 = if b ≤ a then 0 else 149

theorem gift_says {t i j : Int} {a b : Nat} (h0 : 0 ≤ t) (h1 : t < 64) (g0 : 0 ≤ i) (g1 : i < 1099511627776) (j0 : 0 ≤ j) (j1 : j < 1099511627776) (hij : j ≠ i)
    (ha : a < 115792089237316195423570985008687907853269984665640564039457584007913129639936) : GiftSays t i j a b := by
  obtain ⟨V1, e1, k1, p1, l1⟩ : ∃ V, Vau.new.list t = (V, 0) ∧ V.tok t = some (false, 0) ∧ (V.paid = fun _ => false) ∧ V.lock = 0 := ⟨_, list_new h0 h1, updF_same _ _ _, rfl, rfl⟩
  obtain ⟨V2, e2, k2, p2, l2⟩ : ∃ V, V1.deposit t a = (V, if a = 0 then 144 else 0) ∧ V.tok t = some (false, a) ∧ (V.paid = fun _ => false) ∧ V.lock = 0 := by
    by_cases hz : a = 0
    · subst hz; exact ⟨V1, by rw [deposit_0 h0 h1 k1, if_pos rfl], k1, p1, l1⟩
    · exact ⟨{ V1 with tok := updF V1.tok t (some (false, 0 + a)) }, (deposit_ok h0 h1 k1 hz (by omega)).trans (by rw [if_neg hz]), (updF_same _ _ _).trans (by rw [Nat.zero_add]), p1, l1⟩
  obtain ⟨V3, r3, e3, k3, p3, l3⟩ : ∃ V r, V2.pay i t b = (V, if b ≤ a then 0 else 146) ∧ V.tok t = some (false, r) ∧ (V.paid = fun n => if n = i then decide (b ≤ a) else false) ∧ V.lock = 0 := by
    by_cases hz : b ≤ a
    · refine ⟨{ V2 with tok := updF V2.tok t (some (false, a - b)), paid := updF V2.paid i true }, _, (pay_ok h0 h1 k2 g0 g1 (by rw [p2]) hz).trans (by rw [if_pos hz]), updF_same _ _ _, ?_, l2⟩
      simp only [p2, hz]; funext n; simp [updF]
    · refine ⟨V2, _, by rw [pay_no h0 h1 k2 g0 g1 (by rw [p2]) hz, if_neg hz], k2, ?_, l2⟩
      rw [p2]; funext n; simp [hz]
  obtain ⟨V4, e4, k4, p4, l4⟩ : ∃ V, V3.stop t true = (V, 0) ∧ V.tok t = some (true, r3) ∧ V.paid = V3.paid ∧ V.lock = 0 := ⟨_, stop_ok h0 h1 k3, updF_same _ _ _, rfl, l3⟩
  have hr : tH (V4.tok t) = r3 := by rw [k4]; rfl
  obtain ⟨V5, e5, k5, l5⟩ : ∃ V, V4.pay j t r3 = (V, 0) ∧ V.tok t = some (true, 0) ∧ V.lock = 0 :=
    ⟨_, pay_ok h0 h1 k4 j0 j1 (by rw [p4, p3]; simp [hij]) (Nat.le_refl _), (updF_same _ _ _).trans (by rw [Nat.sub_self]), l4⟩
  obtain ⟨V6, e6, l6, k6⟩ : ∃ V, V5.lockIt a = (V, 0) ∧ V.lock = a ∧ V.tok = V5.tok := ⟨{ V5 with lock := V5.lock + a }, by rw [Vau.lockIt, if_pos (by omega)], by simp [l5], rfl⟩
  have e7 : (V6.free b).2 = if b ≤ a then 0 else 149 := by rw [Vau.free, l6]; split <;> rfl
  have k7 : (V6.free b).1.tok t = some (true, 0) := by rw [Vau.free]; split <;> simp [k6, k5]
  refine ⟨?_, ?_, ?_, ?_, ?_, ?_, ?_, ?_, ?_⟩ <;> simp only [e1, e2, e3, e4, hr, e5, e6, e7, k7]
  · rw [p3]; simp
  · rfl
theorem cmp_lt (x y : Nat) : cmpN x y < 0 ↔ x < y := by unfold cmpN; by_cases h1 : x < y <;> by_cases h2 : y < x <;> simp [h1, h2]
end Go.Fw
