/- Part 5 of what the row MachineKeeps needs, with no condition beyond each lemma's own. -/
import Derived.Test.YtlapmbkfmbkdoaaGreatDoorSb4
section
namespace Go.Proofs.YtlapmbkfmbkdoaaGreatDoor
open Go Go.Fw Go.ChangeShapes Go.RowKit
def i64OK (n : Int) : Prop := -9223372036854775808 ≤ n ∧ n ≤ 9223372036854775807
theorem wf_i64 {n : Int} (h : (Lit.int .i64 n).wf = true) : i64OK n := by
  have := bounds_i64 h; unfold i64OK; omega
theorem weight_field {H : Type} {P : Program} {t : TypeId} {fs : Array Field} (hu : P.underlying t = some (.struct fs)) {parts : List (DataW H)} (h : ∀ n ∈ (DataW.agg parts).weights P t, n ≤ reachBytes) : (DataW.weightsEach P (fs.toList.map (·.type)) parts).all (· ≤ reachBytes) = true := by
  rw [List.all_eq_true]
  intro n hn
  have := h n (by simpa [DataW.weights, hu] using hn)
  simpa using this
theorem ce29 : Tryz.prog.cellsOf 29 = 20 := by kernel_rfl
theorem ce35 : Tryz.prog.cellsOf 35 = 48 := by kernel_rfl
theorem ce38 : Tryz.prog.cellsOf 38 = 50 := by kernel_rfl
theorem ce97 : Tryz.prog.cellsOf 97 = 5 := by kernel_rfl
theorem ce23 : Tryz.prog.cellsOf 23 = 1 := by kernel_rfl
theorem ce33 : Tryz.prog.cellsOf 33 = 1 := by kernel_rfl
theorem ce36 : Tryz.prog.cellsOf 36 = 1 := by kernel_rfl
theorem bytes97 : Tryz.prog.bytesOf 97 = 40 := by kernel_rfl
def repOk (r : Nat × Int) : Prop := r.1 < 115792089237316195423570985008687907853269984665640564039457584007913129639936 ∧ i64OK r.2
theorem reps_of : ∀ els : List (List Value), (∀ l ∈ els, (∃ r : Nat × Int, repOk r ∧ l = repc r) ∧ l.length = 5) → ∃ ps : List (Nat × Int), ps.length = els.length ∧ (∀ r ∈ ps, repOk r) ∧ els.flatten = ps.flatMap repc
  | [], _ => ⟨[], rfl, by intro x hx; simp at hx, rfl⟩
  | l :: els, h => by
    obtain ⟨ps, h1, h2, h3⟩ := reps_of els fun l hl => h l (by simp [hl])
    obtain ⟨⟨p, hp, rfl⟩, _⟩ := h l (by simp)
    refine ⟨p :: ps, by simp [h1], ?_, by rw [List.flatten_cons, h3, List.flatMap_cons]⟩
    intro q hq
    rcases List.mem_cons.1 hq with rfl | hq
    · exact hp
    · exact h2 q hq
theorem len_5 {α : Type} {l : List α} (h : l.length = 5) : ∃ a b c d e, l = [a, b, c, d, e] := by
  match l, h with
  | [a, b, c, d, e], _ => exact ⟨a, b, c, d, e, rfl⟩
section
variable {H : Type} {enc : TypeId × Value → H} {w : World} {base fuel : Nat} {spare : Nat → Bool} {held : Bool} {cs : List Value} {x : DataW H × List MemPlace}
theorem open_reply (h : DataW.trod enc Tryz.prog w base spare held fuel 97 cs = some x) : ∃ r : Nat × Int, repOk r ∧ cs = repc r := by
  obtain ⟨hl, m, g⟩ := trod_fields Tryz.underlying97 h
  rw [ce97] at hl
  obtain ⟨a, b, c, d, e, rfl⟩ := len_5 hl
  obtain ⟨y0, g0⟩ := g 0 _ 32 0 rfl rfl rfl
  obtain ⟨y1, g1⟩ := g 1 _ 23 4 rfl rfl rfl
  obtain ⟨n0, w0, e0⟩ := open_wide g0
  obtain ⟨n1, e1, _, w1⟩ := DataW.trod_int Tryz.underlying23 g1
  simp only [ce23, ce32, List.drop_zero, List.drop_succ_cons, List.take_succ_cons, List.take_zero, List.cons.injEq, and_true] at e0 e1
  subst e1
  obtain ⟨rfl, rfl, rfl, rfl⟩ := e0
  exact ⟨(n0, n1), ⟨w0, wf_i64 w1⟩, rfl⟩
theorem open_replies {A : Option Addr} {len cap : Nat} (h : DataW.trod enc Tryz.prog w base spare held fuel 36 [.slice A len cap] = some x) : ∃ l : List (Nat × Int), l.length = len ∧ (∀ r ∈ l, repOk r) ∧ Rd w A (l.flatMap repc) ∧ len ≤ cap ∧ cap ≤ 9223372036854775807 := by
  obtain ⟨h1, h2, els, h3, h4, h5⟩ := open_rd (n := 5) (Pp := fun l => ∃ r : Nat × Int, repOk r ∧ l = repc r) Tryz.underlying36 ce97 (fun fuel cs x h => by
    obtain ⟨n, hn, rfl⟩ := open_reply h
    exact ⟨⟨n, hn, rfl⟩, rfl⟩) h
  obtain ⟨ps, g1, g2, g3⟩ := reps_of els h4
  exact ⟨ps, by rw [g1, h3], g2, g3 ▸ h5, h1, Nat.le_trans h2 (by decide)⟩
theorem open_addr (h : DataW.trod enc Tryz.prog w base spare held fuel 29 cs = some x) : ∃ f : Nat → Nat, (∀ i, f i < 256) ∧ cs = adc f := by
  obtain ⟨xs, m, rfl, _, hl, hxl, hx⟩ := DataW.trod_array Tryz.underlying29 h
  rw [ce29] at hl
  simp only [ce5, Nat.mul_one] at hx
  have g : ∀ i, ∃ n : Nat, n < 256 ∧ (i < 20 → cs[i]? = some (.int .u8 (n : Int))) := by
    intro i
    by_cases hi : i < 20
    · have g : DataW.trod enc Tryz.prog w base spare held m 5 ((cs.drop i).take 1) = some (xs[i]'(by omega)) := by rw [hx i hi]; simp [hxl, hi]
      obtain ⟨n0, e0, _, w0⟩ := DataW.trod_int Tryz.underlying5 g
      have hb : 0 ≤ n0 ∧ n0 ≤ 255 := by
        simp only [Lit.wf, Bool.and_eq_true, decide_eq_true_eq] at w0
        have h1 : IntKind.u8.min = 0 := rfl
        have h2 : IntKind.u8.max = 255 := rfl
        omega
      refine ⟨n0.toNat, by omega, fun _ => ?_⟩
      rw [Int.toNat_of_nonneg hb.1]
      have : (cs.drop i).take 1 = [cs[i]'(by omega)] := by
        rw [List.drop_eq_getElem_cons (by omega)]; rfl
      rw [this] at e0
      rw [List.getElem?_eq_getElem (by omega)]
      simpa using e0
    · exact ⟨0, by decide, fun h => absurd h hi⟩
  refine ⟨fun i => Classical.choose (g i), fun i => (Classical.choose_spec (g i)).1, ?_⟩
  have hE : ∀ f : Nat → Nat, adc f = (List.range 20).map fun i => Value.int .u8 ((f i : Nat) : Int) := fun f => rfl
  rw [hE]
  refine List.ext_getElem? fun i => ?_
  by_cases hi : i < 20
  · rw [(Classical.choose_spec (g i)).2 hi]
    simp [hi]
  · rw [List.getElem?_eq_none (by omega), List.getElem?_eq_none (by simp; omega)]
end
structure PlayIn (F : Fx) (w : World) : Prop where
  ok : Fx.Ok0 F
  inner : F.inner = []
  code : Rd w F.cA (byts F.code)
  args : Rd w F.aA (F.cl.args.flatMap wc)
  reps : Rd w F.qA (F.reps.flatMap repc)
  b1 : F.code.length ≤ 140737488351232
  b2 : F.cl.args.length ≤ 4398046510976
  b3 : F.reps.length ≤ 3518437208781
  tok : i64OK F.cl.token
  time : i64OK F.cl.time
  gas : i64OK F.cl.gas
  errs : ∀ r ∈ F.reps, i64OK r.2
theorem slice_of {H : Type} {enc : TypeId × Value → H} {w : World} {base fuel : Nat} {spare : Nat → Bool} {held : Bool} {t e : TypeId} {cs : List Value} {x : DataW H × List MemPlace} (hu : Tryz.prog.underlying t = some (.slice e)) (h : DataW.trod enc Tryz.prog w base spare held fuel t cs = some x) : ∃ A len cap, cs = [.slice A len cap] := by
  rcases DataW.trod_slice hu h with ⟨rfl, _⟩ | ⟨a, len, cap, _, _, _, _, rfl, _⟩
  · exact ⟨_, _, _, rfl⟩
  · exact ⟨_, _, _, rfl⟩
theorem play_cells {A B C : Option Addr} {n c n2 c2 n3 c3 : Nat} {f g : Nat → Nat} {tok time gas : Int} {am : Nat} {cs : List Value} (h : cs.length = 50) (h0 : cs.take 1 = [.slice A n c]) (h1 : (cs.drop 1).take 48 = adc f ++ (adc g ++ (.int .i64 tok :: (wc am ++ [.slice B n2 c2, .int .i64 time, .int .i64 gas])))) (h2 : (cs.drop 49).take 1 = [.slice C n3 c3]) :
    cs = .slice A n c :: (adc f ++ (adc g ++ (.int .i64 tok :: (wc am ++ [.slice B n2 c2, .int .i64 time, .int .i64 gas, .slice C n3 c3])))) := by
  have e : cs = cs.take 1 ++ ((cs.drop 1).take 48 ++ (cs.drop 49).take 1) := by
    have e1 : (cs.drop 49).take 1 = cs.drop 49 := List.take_of_length_le (by simp; omega)
    rw [e1]
    have e2 := List.take_append_drop 48 (cs.drop 1)
    rw [List.drop_drop] at e2
    rw [e2]; exact (List.take_append_drop 1 cs).symm
  rw [e, h0, h1, h2]; simp
theorem call_cells {B : Option Addr} {n2 c2 : Nat} {f g : Nat → Nat} {tok time gas : Int} {am : Nat} {cs : List Value} (h : cs.length = 48) (h0 : (cs.drop 0).take 20 = adc f) (h1 : (cs.drop 20).take 20 = adc g) (h2 : (cs.drop 40).take 1 = [.int .i64 tok]) (h3 : (cs.drop 41).take 4 = wc am) (h4 : (cs.drop 45).take 1 = [.slice B n2 c2]) (h5 : (cs.drop 46).take 1 = [.int .i64 time]) (h6 : (cs.drop 47).take 1 = [.int .i64 gas]) :
    cs = adc f ++ (adc g ++ (.int .i64 tok :: (wc am ++ [.slice B n2 c2, .int .i64 time, .int .i64 gas]))) := by
  have e : ∀ a k, cs.drop a = (cs.drop a).take k ++ cs.drop (a + k) := fun a k => by
    have := List.take_append_drop k (cs.drop a)
    rw [List.drop_drop] at this
    exact this.symm
  have e48 : cs.drop 48 = [] := List.drop_of_length_le (by omega)
  have : cs = cs.drop 0 := rfl
  rw [this, e 0 20, h0, e (0 + 20) 20, h1, e (0 + 20 + 20) 1, h2, e (0 + 20 + 20 + 1) 4, h3, e (0 + 20 + 20 + 1 + 4) 1, h4, e (0 + 20 + 20 + 1 + 4 + 1) 1, h5, e (0 + 20 + 20 + 1 + 4 + 1 + 1) 1, h6, e48]
  simp
set_option maxRecDepth 4000 in
theorem open_play {H : Type} {enc : TypeId × Value → H} {w : World} {base fuel : Nat} {held : Bool} {cs : List Value} {d : DataW H} {p : List MemPlace} (h : DataW.trod enc Tryz.prog w base (fun _ => true) held fuel 38 cs = some (d, p)) (hw : ∀ n ∈ d.weights Tryz.prog 38, n ≤ reachBytes) :
    ∃ F : Fx, PlayIn F w ∧ cs = plays F := by
  obtain ⟨xs, m, _, hx, hl, hlen, hf⟩ := DataW.trod_struct Tryz.underlying38 h
  obtain ⟨rfl, rfl⟩ := Prod.mk.inj hx
  rw [ce38] at hl
  have W1 := weight_field Tryz.underlying38 hw
  have f0 := hf 0 _ rfl
  have f1 := hf 1 _ rfl
  have f2 := hf 2 _ rfl
  have hl3 : xs.length = 3 := hlen
  obtain ⟨x0, x1, x2, rfl⟩ : ∃ x0 x1 x2, xs = [x0, x1, x2] := by
    match xs, hl3 with
    | [a, b, c], _ => exact ⟨a, b, c, rfl⟩
  obtain ⟨d0, p0⟩ := x0
  obtain ⟨d1, p1⟩ := x1
  obtain ⟨d2, p2⟩ := x2
  replace f0 : DataW.trod enc Tryz.prog w base (fun _ => true) held m 22 ((cs.drop 0).take (Tryz.prog.cellsOf 22)) = some (d0, p0) := f0
  replace f1 : DataW.trod enc Tryz.prog w base (fun _ => true) held m 35 ((cs.drop 1).take (Tryz.prog.cellsOf 35)) = some (d1, p1) := f1
  replace f2 : DataW.trod enc Tryz.prog w base (fun _ => true) held m 36 ((cs.drop 49).take (Tryz.prog.cellsOf 36)) = some (d2, p2) := f2
  rw [ce22, List.drop_zero] at f0
  rw [ce35] at f1
  rw [ce36] at f2
  obtain ⟨A, n, c, e0⟩ := slice_of Tryz.underlying22 f0
  obtain ⟨C, n3, c3, e2⟩ := slice_of Tryz.underlying36 f2
  rw [e0] at f0
  rw [e2] at f2
  have w0 := slice_weight (j := 0) W1 rfl rfl Tryz.underlying22 f0
  have w2 := slice_weight (j := 2) W1 rfl rfl Tryz.underlying36 f2
  rw [bytes5, show reachBytes = 140737488351232 from rfl] at w0
  rw [bytes97, show reachBytes = 140737488351232 from rfl] at w2
  obtain ⟨code, hn, hB, hR, hc, hm⟩ := open_byteL f0
  obtain ⟨reps, hn3, hB3, hR3, hc3, hm3⟩ := open_replies f2
  have W2 : ∀ n ∈ d1.weights Tryz.prog 35, n ≤ reachBytes := fun n hn => by
    have := List.all_eq_true.1 W1 n (DataW.weights_mem_each (j := 1) (t := 35) (d := d1) rfl rfl n hn)
    simpa using this
  obtain ⟨ys, m', _, hy, hl', hlen', hf'⟩ := DataW.trod_struct Tryz.underlying35 f1
  obtain ⟨rfl, rfl⟩ := Prod.mk.inj hy
  rw [ce35] at hl'
  have W3 := weight_field Tryz.underlying35 W2
  have hl7 : ys.length = 7 := hlen'
  obtain ⟨y0, y1, y2, y3, y4, y5, y6, rfl⟩ : ∃ y0 y1 y2 y3 y4 y5 y6, ys = [y0, y1, y2, y3, y4, y5, y6] := by
    match ys, hl7 with
    | [a, b, c, d, e, f, g], _ => exact ⟨a, b, c, d, e, f, g, rfl⟩
  obtain ⟨z4, q4⟩ := y4
  have k0 : DataW.trod enc Tryz.prog w base (fun _ => true) held m' 29 ((((cs.drop 1).take 48).drop 0).take (Tryz.prog.cellsOf 29)) = some y0 := hf' 0 _ rfl
  have k1 : DataW.trod enc Tryz.prog w base (fun _ => true) held m' 29 ((((cs.drop 1).take 48).drop 20).take (Tryz.prog.cellsOf 29)) = some y1 := hf' 1 _ rfl
  have k2 : DataW.trod enc Tryz.prog w base (fun _ => true) held m' 3 ((((cs.drop 1).take 48).drop 40).take (Tryz.prog.cellsOf 3)) = some y2 := hf' 2 _ rfl
  have k3 : DataW.trod enc Tryz.prog w base (fun _ => true) held m' 32 ((((cs.drop 1).take 48).drop 41).take (Tryz.prog.cellsOf 32)) = some y3 := hf' 3 _ rfl
  have k4 : DataW.trod enc Tryz.prog w base (fun _ => true) held m' 33 ((((cs.drop 1).take 48).drop 45).take (Tryz.prog.cellsOf 33)) = some (z4, q4) := hf' 4 _ rfl
  have k5 : DataW.trod enc Tryz.prog w base (fun _ => true) held m' 3 ((((cs.drop 1).take 48).drop 46).take (Tryz.prog.cellsOf 3)) = some y5 := hf' 5 _ rfl
  have k6 : DataW.trod enc Tryz.prog w base (fun _ => true) held m' 3 ((((cs.drop 1).take 48).drop 47).take (Tryz.prog.cellsOf 3)) = some y6 := hf' 6 _ rfl
  rw [ce29] at k0 k1
  rw [ce3] at k2 k5 k6
  rw [ce32] at k3
  rw [ce33] at k4
  obtain ⟨fs, hfs, e3⟩ := open_addr k0
  obtain ⟨fc, hfc, e4⟩ := open_addr k1
  obtain ⟨tok, e5, _, wt⟩ := DataW.trod_int Tryz.underlying3 k2
  obtain ⟨am, ham, e6⟩ := open_wide k3
  obtain ⟨B, n2, c2, e7⟩ := slice_of Tryz.underlying33 k4
  obtain ⟨time, e8, _, wtm⟩ := DataW.trod_int Tryz.underlying3 k5
  obtain ⟨gas, e9, _, wg⟩ := DataW.trod_int Tryz.underlying3 k6
  rw [e7] at k4
  have w4 := slice_weight (j := 4) W3 rfl rfl Tryz.underlying33 k4
  rw [bytes32, show reachBytes = 140737488351232 from rfl] at w4
  obtain ⟨args, hn2, hB2, hR2, hc2, hm2⟩ := open_wides k4
  have hcall := call_cells (by simp [hl]) e3 e4 e5 e6 e7 e8 e9
  have hall := play_cells hl e0 hcall e2
  subst hn hn2 hn3
  refine ⟨{ rb := 0, hb := 0, cA := A, cc := c, code := code, aA := B, ac := c2, cl := ⟨fs, fc, tok, am, args, time, gas⟩, qA := C, qc := c3, reps := reps, iA := none, ic := 0, inner := [] }, ⟨⟨hB, hc, hm, hB2, hc2, hm2, hfs, hfc, ham, fun r hr => (hB3 r hr).1, by show reps.length ≤ _; omega⟩, rfl, hR, hR2, hR3, by dsimp only; omega, by dsimp only; omega, by dsimp only; omega, wf_i64 wt, wf_i64 wtm, wf_i64 wg, fun r hr => (hB3 r hr).2⟩, ?_⟩
  rw [hall]; rfl
end Go.Proofs.YtlapmbkfmbkdoaaGreatDoor
end
section
namespace Go.Proofs.YtlapmbkfmbkdoaaGreatDoor
open Go Go.Fw Go.RowKit
end Go.Proofs.YtlapmbkfmbkdoaaGreatDoor
end
section
namespace Go.Proofs.YtlapmbkfmbkdoaaGreatDoor
open Go Go.Fw Go.RowKit
attribute [local irreducible] Go.Oper.wp Go.Code.wp Go.wpList Go.Fw.WL Go.Calls
theorem eg45 : Tryz.prog.eqGuardType Tryz.prog.depth 45 = false := by kernel_rfl
theorem st39 : Tryz.prog.stoodInHeld 45 = false := by kernel_rfl
theorem eq_ints {P : Program} {T E : TypeId} {k : IntKind} {len d : Nat} (hT : P.underlying T = some (.array len E)) (hE : P.underlying E = some (.int k)) (h1 : oneT P E = true) (hs : szT P E 1) (xs : Array Value) (u : Nat → Int) (hx : ∀ i, i < len → xs[i]? = some (.int k (u i))) : EqOk P (d + 2) T (.agg xs) (.agg xs) true := by
  have h := eq_arr (d := d + 1) hT hs xs xs (fun _ => true) (fun i => .int k (u i)) (fun i => .int k (u i)) (fun i hi w => run_part1 h1 (by rw [Nat.mul_one]; exact hx i hi)) (fun i hi w => run_part1 h1 (by rw [Nat.mul_one]; exact hx i hi)) (fun i _ w => by
    have := eq_int (P := P) (d := d) hE (u i) (u i) w
    rwa [decide_eq_true rfl] at this)
  have e : ((List.range len).all fun _ => true) = true := by simp
  rw [e] at h; exact h
theorem eq_int1 {P : Program} {T : TypeId} {k : IntKind} {d : Nat} (hT : P.underlying T = some (.int k)) (a : Int) : EqOk P (d + 1) T (.int k a) (.int k a) true := fun w => by
  have := eq_int (P := P) (d := d) hT a a w
  rwa [decide_eq_true rfl] at this
theorem eq_wide {d : Nat} (x : Nat) : EqOk Tryz.prog (d + 2) 32 (wv x) (wv x) true :=
  eq_ints Tryz.underlying32 Tryz.underlying30 one30 sz30 _ (fun i => ((dg x i : Nat) : Int)) fun i hi => by simpa using wc_at x i hi
theorem ran_eq (v : Nat) (g : Int) : EqOk Tryz.prog Op.maxDepth 45 (.agg (wc v ++ [Value.int .i64 g]).toArray) (.agg (wc v ++ [Value.int .i64 g]).toArray) true := by
  have h := eq_str (P := Tryz.prog) (d := 9999) Tryz.underlying45 st39 (wc v ++ [Value.int .i64 g]).toArray (wc v ++ [Value.int .i64 g]).toArray (fun _ => true) (fun f => if f.offset = 0 then wv v else .int .i64 g) (fun f => if f.offset = 0 then wv v else .int .i64 g) (by
      intro f hf; simp at hf; rcases hf with rfl | rfl <;> decide)
    (by intro f hf w; simp at hf; rcases hf with rfl | rfl
        · exact run_partA agg32 sz32
        · exact run_part1 one3 rfl)
    (by intro f hf w; simp at hf; rcases hf with rfl | rfl
        · exact run_partA agg32 sz32
        · exact run_part1 one3 rfl)
    (by intro f hf; simp at hf; rcases hf with rfl | rfl
        · exact eq_wide v
        · exact eq_int1 Tryz.underlying3 g)
  exact h
end Go.Proofs.YtlapmbkfmbkdoaaGreatDoor
end
section
namespace Go.Proofs.YtlapmbkfmbkdoaaGreatDoor
open Go Go.Fw Go.RowKit
theorem dg_ord {V d i : Nat} (hV : V % 2 ^ (8 * i + 8) = 0) (hd : d < 256) : ∀ k, (if k = i / 8 then dg V (i / 8) ||| (d * 2 ^ (8 * (i % 8)) % 18446744073709551616) else dg V k) = dg (V + d * 2 ^ (8 * i)) k := by
  intro k
  have hi : 8 * i = 64 * (i / 8) + 8 * (i % 8) := by omega
  have hm : i % 8 < 8 := Nat.mod_lt _ (by decide)
  generalize i / 8 = j at *
  generalize i % 8 = r at *
  rw [hi] at hV ⊢
  have h64 : (18446744073709551616 : Nat) = 2 ^ 64 := by decide
  have hB : ∀ k, (18446744073709551616 : Nat) ^ k = 2 ^ (64 * k) := fun k => by rw [h64, ← Nat.pow_mul]
  have hRp : 0 < 2 ^ (8 * r) := Nat.pow_pos (by decide)
  have hR : 2 ^ (8 * r) ≤ 72057594037927936 := by
    have : 2 ^ (8 * r) ≤ 2 ^ 56 := Nat.pow_le_pow_right (by decide) (by omega)
    exact this
  obtain ⟨H, rfl⟩ : ∃ H, V = 2 ^ (64 * j) * (2 ^ (8 * r + 8) * H) := ⟨V / 2 ^ (64 * j + 8 * r + 8), by
    rw [← Nat.mul_assoc, ← Nat.pow_add, show 64 * j + (8 * r + 8) = 64 * j + 8 * r + 8 by omega]
    have := Nat.div_add_mod V (2 ^ (64 * j + 8 * r + 8))
    omega⟩
  have e : ∀ Z, 2 ^ (64 * j) * Z + d * 2 ^ (64 * j + 8 * r) = 2 ^ (64 * j) * (Z + d * 2 ^ (8 * r)) := fun Z => by
    rw [Nat.mul_add, Nat.pow_add, Nat.mul_left_comm d]
  rw [e]
  have h8 : 2 ^ (8 * r + 8) = 2 ^ (8 * r) * 256 := by rw [Nat.pow_add]
  have hdr : d * 2 ^ (8 * r) < 2 ^ (8 * r + 8) := by
    rw [h8, Nat.mul_comm]; exact Nat.mul_lt_mul_of_pos_left hd hRp
  have h88 : 2 ^ (8 * r + 8) ≤ 18446744073709551616 := by rw [h8]; omega
  by_cases hk : k = j
  · subst hk
    rw [if_pos rfl]
    unfold dg
    rw [hB, Nat.mul_div_cancel_left _ (Nat.pow_pos (by decide)), Nat.mul_div_cancel_left _ (Nat.pow_pos (by decide)), Nat.mod_eq_of_lt (by omega : d * 2 ^ (8 * r) < 18446744073709551616)]
    have e64 : (18446744073709551616 : Nat) = 2 ^ (8 * r + 8) * 2 ^ (56 - 8 * r) := by rw [← Nat.pow_add, show 8 * r + 8 + (56 - 8 * r) = 64 by omega]
    have e1 : 2 ^ (8 * r + 8) * H % 18446744073709551616 = 2 ^ (8 * r + 8) * (H % 2 ^ (56 - 8 * r)) := by rw [e64, Nat.mul_mod_mul_left]
    have hY := Nat.mod_lt H (Nat.pow_pos (n := 56 - 8 * r) (by decide : 0 < 2))
    have hs : 2 ^ (8 * r + 8) * (H % 2 ^ (56 - 8 * r)) + d * 2 ^ (8 * r) < 18446744073709551616 := by
      have : 2 ^ (8 * r + 8) * (H % 2 ^ (56 - 8 * r) + 1) ≤ 2 ^ (8 * r + 8) * 2 ^ (56 - 8 * r) := Nat.mul_le_mul_left _ hY
      rw [Nat.mul_add, Nat.mul_one, ← e64] at this
      omega
    rw [e1, ← Nat.two_pow_add_eq_or_of_lt hdr, Nat.add_mod, e1, Nat.mod_eq_of_lt (by omega : d * 2 ^ (8 * r) < 18446744073709551616), Nat.mod_eq_of_lt hs]
  · rw [if_neg hk]
    unfold dg
    rw [hB]
    rcases Nat.lt_or_gt_of_ne hk with h | h
    · obtain ⟨m, rfl⟩ : ∃ m, j = k + 1 + m := ⟨j - k - 1, by omega⟩
      have hz : ∀ Z, 2 ^ (64 * (k + 1 + m)) * Z / 2 ^ (64 * k) % 18446744073709551616 = 0 := fun Z => by
        rw [show 64 * (k + 1 + m) = 64 * k + (64 + 64 * m) by omega, Nat.pow_add, Nat.mul_assoc, Nat.mul_div_cancel_left _ (Nat.pow_pos (by decide)), Nat.pow_add, ← h64, Nat.mul_assoc, Nat.mul_mod_right]
      rw [hz, hz]
    · obtain ⟨m, rfl⟩ : ∃ m, k = j + 1 + m := ⟨k - j - 1, by omega⟩
      have hq : ∀ Z, 2 ^ (64 * j) * Z / 2 ^ (64 * (j + 1 + m)) = Z / 2 ^ (64 * (m + 1)) := fun Z => by
        rw [show 64 * (j + 1 + m) = 64 * j + 64 * (m + 1) by omega, Nat.pow_add, ← Nat.div_div_eq_div_mul, Nat.mul_div_cancel_left _ (Nat.pow_pos (by decide))]
      have hq2 : ∀ t, t < 2 ^ (8 * r + 8) → (2 ^ (8 * r + 8) * H + t) / 2 ^ (64 * (m + 1)) = H / 2 ^ (64 * (m + 1) - (8 * r + 8)) := fun t ht => by
        have e4 : (2 : Nat) ^ (64 * (m + 1)) = 2 ^ (8 * r + 8) * 2 ^ (64 * (m + 1) - (8 * r + 8)) := by rw [← Nat.pow_add]; congr 1; omega
        rw [e4, ← Nat.div_div_eq_div_mul, Nat.mul_add_div (Nat.pow_pos (by decide)), Nat.div_eq_of_lt ht, Nat.add_zero]
      have h0 := hq2 0 (Nat.pow_pos (by decide))
      rw [Nat.add_zero] at h0
      rw [hq, hq, hq2 _ hdr, h0]
theorem wc_ord {V d i off : Nat} (hV : V % 2 ^ (8 * i + 8) = 0) (hd : d < 256) (ho : off = i / 8) : (wc V).set off (.int .u64 ((dg V (i / 8) ||| (d * 2 ^ (8 * (i % 8)) % 18446744073709551616) : Nat) : Int)) = wc (V + d * 2 ^ (8 * i)) := by
  rw [← cells4_dg, ← cells4_dg, cells4_set (f := dg V) (k := i / 8) (v := dg V (i / 8) ||| (d * 2 ^ (8 * (i % 8)) % 18446744073709551616)) ho]
  exact cells4_congr fun k _ => dg_ord hV hd k
theorem p2_256 (k : Nat) : (2 : Nat) ^ (8 * k) = 256 ^ k := by rw [Nat.pow_mul]
def upN (l : List Nat) (i : Nat) : Nat := numB (l.take i) * 256 ^ (l.length - i)
theorem upN_0 (l : List Nat) : upN l 0 = 0 := by simp [upN, numB]
theorem upN_all (l : List Nat) : upN l l.length = numB l := by simp [upN]
theorem upN_mod {l : List Nat} {i : Nat} (h : i < l.length) : upN l i % 2 ^ (8 * (l.length - 1 - i) + 8) = 0 := by
  have e : 8 * (l.length - 1 - i) + 8 = 8 * (l.length - i) := by omega
  rw [e, p2_256, upN, Nat.mul_mod_left]
theorem upN_succ {l : List Nat} {i : Nat} (h : i < l.length) : upN l i + l.getD i 0 * 2 ^ (8 * (l.length - 1 - i)) = upN l (i + 1) := by
  have hg : l.getD i 0 = l[i] := by rw [List.getD_eq_getElem?_getD, List.getElem?_eq_getElem h]; rfl
  rw [p2_256, upN, upN, take_snoc l i h, numB_snoc, hg, Nat.add_mul, show l.length - i = (l.length - (i + 1)) + 1 by omega, Nat.pow_succ, show l.length - 1 - i = l.length - (i + 1) by omega]
  congr 1
  rw [Nat.mul_comm (256 ^ (l.length - (i + 1))) 256, Nat.mul_assoc]
theorem upN_at {l : List Nat} {i k off : Nat} (ho : off = k) (h : k < 4) : (wc (upN l i))[off]? = some (.int .u64 ((dg (upN l i) k : Nat) : Int)) := by
  have := wc_at (upN l i) k h
  subst ho
  simpa using this
theorem dig_40 {x i : Nat} (h : i < 32) : dg x (3 - i / 8) / 2 ^ (56 - 8 * (i % 8)) &&& 255 = x / 256 ^ (31 - i) % 256 := by
  have e : (255 : Nat) = 2 ^ 8 - 1 := by decide
  have h2 : 56 - 8 * (i % 8) = 8 * (7 - i % 8) := by omega
  rw [e, Nat.and_two_pow_sub_one_eq_mod, h2, show (2 : Nat) ^ 8 = 256 from rfl, dg_by8 _ _ _ (by omega)]
  unfold by8
  rw [show 8 * (3 - i / 8) + (7 - i % 8) = 31 - i by omega]
theorem toB_0 (k : Nat) : List.replicate k 0 = toB k 0 := by
  unfold toB
  apply List.ext_getElem?
  intro i
  by_cases h : i < k
  · simp [h]
  · simp [h]
theorem setB_take (S t : Nat) : setB (S % 256 ^ t) t (S / 256 ^ t % 256) = S % 256 ^ (t + 1) := by
  rw [setB_three, Nat.mod_mod, Nat.div_eq_of_lt (Nat.lt_of_lt_of_le (Nat.mod_lt _ (p256_pos t)) (Nat.pow_le_pow_right (by decide) (by omega))), Nat.zero_mul, Nat.add_zero, Nat.pow_succ, Nat.mod_mul, Nat.mul_comm (S / 256 ^ t % 256)]
theorem ints_getB {k n i off : Nat} (h : i < k) (ho : off = i) : (ints (toB k n))[off]? = some (.int .i64 ((n / 256 ^ (k - 1 - i) % 256 : Nat) : Int)) := by
  subst ho; simp [ints, toB_at h]
theorem ints_setB {k V t e off : Nat} {v : Value} (ht : t < k) (he : e < 256) (ho : off = k - 1 - t) (hv : v = .int .i64 ((e : Nat) : Int)) : (ints (toB k V)).set off v = ints (toB k (setB V t e)) := by
  subst hv; subst ho
  rw [← toB_set ht he]; simp [ints, List.map_set]
theorem cmpB_same {x y k : Nat} (h : x / 256 ^ (k + 1) = y / 256 ^ (k + 1)) (hd : x / 256 ^ k % 256 = y / 256 ^ k % 256) : x / 256 ^ k = y / 256 ^ k := by
  rw [Nat.pow_succ, ← Nat.div_div_eq_div_mul, ← Nat.div_div_eq_div_mul] at h
  omega
theorem cmpB_lt {x y k : Nat} (h : x / 256 ^ (k + 1) = y / 256 ^ (k + 1)) (hd : x / 256 ^ k % 256 < y / 256 ^ k % 256) : x < y := by
  rw [Nat.pow_succ, ← Nat.div_div_eq_div_mul, ← Nat.div_div_eq_div_mul] at h
  rcases Nat.lt_or_ge x y with h1 | h1
  · exact h1
  · have := Nat.div_le_div_right (c := 256 ^ k) h1
    omega
def cmpV (x y : Nat) : Int := if x < y then -1 else if x = y then 0 else 1
theorem cmpV_lt {x y : Nat} (h : x < y) : cmpV x y = -1 := if_pos h
theorem cmpV_gt {x y : Nat} (h : y < x) : cmpV x y = 1 := by unfold cmpV; rw [if_neg (by omega), if_neg (by omega)]
theorem cmpV_eq {x y : Nat} (h : x = y) : cmpV x y = 0 := by unfold cmpV; rw [if_neg (by omega), if_pos h]
theorem cmpV_neg {x y : Nat} : cmpV x y < 0 ↔ x < y := by
  unfold cmpV
  split
  · simp [*]
  · split <;> simp [*]
theorem cmpV_ge {x y : Nat} : 0 ≤ cmpV x y ↔ y ≤ x := by
  have := cmpV_neg (x := x) (y := y)
  omega
theorem who_next {v n i : Nat} (h : v < 256 ^ (n - i)) (hi : i < n) (hd : v / 256 ^ (n - 1 - i) % 256 = 0) : v < 256 ^ (n - (i + 1)) := by
  rw [show n - i = (n - 1 - i) + 1 by omega, Nat.pow_succ] at h
  have h2 : v / 256 ^ (n - 1 - i) < 256 := Nat.div_lt_of_lt_mul h
  have h3 : v / 256 ^ (n - 1 - i) = 0 := by
    generalize v / 256 ^ (n - 1 - i) = z at *
    omega
  rw [show n - (i + 1) = n - 1 - i by omega]
  exact Nat.lt_of_div_eq_zero (p256_pos _) h3
theorem who_bad {v n i : Nat} (hi : i < n - 32) (hd : v / 256 ^ (n - 1 - i) % 256 ≠ 0) : ¬ v < 256 ^ 32 := by
  intro h
  have : v / 256 ^ (n - 1 - i) = 0 := Nat.div_eq_of_lt (Nat.lt_of_lt_of_le h (Nat.pow_le_pow_right (by decide) (by omega)))
  rw [this] at hd; exact hd rfl
def mixL (A B : List Nat) (k : Nat) : List Nat := A.take k ++ B.drop k
theorem mixL_0 (A B : List Nat) : mixL A B 0 = B := by simp [mixL]
theorem mixL_all {A B : List Nat} {k : Nat} (hA : A.length = k) (hB : B.length = k) : mixL A B k = A := by
  rw [mixL, List.take_of_length_le (by omega), List.drop_of_length_le (by omega), List.append_nil]
theorem length_mixL {A B : List Nat} {k n : Nat} (hA : A.length = n) (hB : B.length = n) (h : k ≤ n) : (mixL A B k).length = n := by
  simp [mixL, hA, hB]; omega
theorem ints_setp (p q : List Nat) (b d : Nat) : (ints (p ++ b :: q)).set p.length (.int .i64 ((d : Nat) : Int)) = ints (p ++ d :: q) := by
  unfold ints
  rw [List.map_append, List.set_append_right _ _ (by simp), List.length_map, Nat.sub_self, List.map_append]
  simp
theorem mixL_set {A B : List Nat} {k n d off : Nat} {v : Value} (hA : A.length = n) (hB : B.length = n) (h : k < n) (hd : d = A.getD k 0) (ho : off = k) (hv : v = .int .i64 ((d : Nat) : Int)) : (ints (mixL A B k)).set off v = ints (mixL A B (k + 1)) := by
  subst hv; subst ho; subst hd
  have e : B.drop off = B[off]'(by omega) :: B.drop (off + 1) := List.drop_eq_getElem_cons (by omega)
  have e2 : A.take (off + 1) = A.take off ++ [A[off]'(by omega)] := take_snoc A off (by omega)
  have e3 : A.getD off 0 = A[off]'(by omega) := by rw [List.getD_eq_getElem?_getD, List.getElem?_eq_getElem (by omega)]; rfl
  have hl : (A.take off).length = off := by rw [List.length_take]; omega
  unfold mixL
  rw [e, e2, e3, List.append_assoc, List.singleton_append]
  have := ints_setp (A.take off) (B.drop (off + 1)) (B[off]'(by omega)) (A[off]'(by omega))
  rwa [hl] at this
theorem mixL_get {A B : List Nat} {k n i off : Nat} (hA : A.length = n) (hB : B.length = n) (h : i < n) (hk : k ≤ i) (ho : off = i) : (ints (mixL A B k))[off]? = some (.int .i64 ((B.getD i 0 : Nat) : Int)) := by
  subst ho
  have hl : (A.take k).length = k := by rw [List.length_take]; omega
  unfold mixL ints
  rw [List.getElem?_map, List.getElem?_append_right (by omega), hl, List.getElem?_drop, show k + (off - k) = off by omega, List.getElem?_eq_getElem (by omega), List.getD_eq_getElem?_getD, List.getElem?_eq_getElem (by omega)]
  rfl
theorem twice_dig {r b T : Nat} (hb : b ≤ 1) : (2 * r + b) / 256 ^ T % 256 = r / 256 ^ T % 256 % 128 * 2 + (if 0 < T then r / 256 ^ (T - 1) % 256 / 128 else b) := by
  cases T with
  | zero => simp; omega
  | succ T =>
    rw [if_pos (by omega), show T + 1 - 1 = T by omega]
    have h1 : (2 * r + b) / 256 ^ T / 2 = r / 256 ^ T := by
      rw [Nat.div_div_eq_div_mul, Nat.mul_comm (256 ^ T) 2, ← Nat.div_div_eq_div_mul, show (2 * r + b) / 2 = r by omega]
    rw [Nat.pow_succ, ← Nat.div_div_eq_div_mul, ← Nat.div_div_eq_div_mul]
    omega
theorem bit_of {x i : Nat} (h : i < 256) : x / 256 ^ (31 - i / 8) % 256 / 2 ^ (7 - i % 8) % 2 = x / 2 ^ (255 - i) % 2 := by
  have e : 255 - i = 8 * (31 - i / 8) + (7 - i % 8) := by omega
  rw [e, Nat.pow_add, p2_256, ← Nat.div_div_eq_div_mul]
  have hs : 7 - i % 8 < 8 := by omega
  generalize x / 256 ^ (31 - i / 8) = z
  generalize 7 - i % 8 = s at *
  have : s = 0 ∨ s = 1 ∨ s = 2 ∨ s = 3 ∨ s = 4 ∨ s = 5 ∨ s = 6 ∨ s = 7 := by omega
  rcases this with rfl | rfl | rfl | rfl | rfl | rfl | rfl | rfl <;> simp <;> omega
theorem top_next {x i : Nat} (h : i < 256) : x / 2 ^ (256 - (i + 1)) = 2 * (x / 2 ^ (256 - i)) + x / 2 ^ (255 - i) % 2 := by
  rw [show 256 - (i + 1) = 255 - i by omega, show 256 - i = (255 - i) + 1 by omega, Nat.pow_succ, ← Nat.div_div_eq_div_mul]
  omega
theorem quo_step {X b y : Nat} (hy : 0 < y) (hb : b ≤ 1) : (2 * X + b) / y = 2 * (X / y) + (if y ≤ 2 * (X % y) + b then 1 else 0) ∧ (2 * X + b) % y = (if y ≤ 2 * (X % y) + b then 2 * (X % y) + b - y else 2 * (X % y) + b) := by
  have h1 := Nat.div_add_mod X y
  have h2 := Nat.mod_lt X hy
  have e : 2 * X + b = (2 * (X % y) + b) + y * (2 * (X / y)) := by
    have : y * (2 * (X / y)) = 2 * (y * (X / y)) := Nat.mul_left_comm _ _ _
    omega
  rw [e, Nat.add_mul_div_left _ _ hy, Nat.add_mul_mod_self_left]
  generalize X % y = r at *
  by_cases h : y ≤ 2 * r + b
  · rw [if_pos h, if_pos h]
    have h3 : (2 * r + b) / y = 1 := by
      rw [Nat.div_eq_sub_div hy h, Nat.div_eq_of_lt (by omega)]
    have h4 : (2 * r + b) % y = 2 * r + b - y := by
      rw [Nat.mod_eq_sub_mod h, Nat.mod_eq_of_lt (by omega)]
    omega
  · rw [if_neg h, if_neg h, Nat.div_eq_of_lt (by omega), Nat.mod_eq_of_lt (by omega)]
    omega
def quoT (x y i : Nat) : Nat := x / 2 ^ (256 - i) / y * 2 ^ (256 - i)
def remT (x y i : Nat) : Nat := x / 2 ^ (256 - i) % y
theorem quoT_0 {x y : Nat} (hx : x < 2 ^ 256) : quoT x y 0 = 0 := by unfold quoT; rw [Nat.div_eq_of_lt hx]; simp
theorem remT_0 {x y : Nat} (hx : x < 2 ^ 256) : remT x y 0 = 0 := by unfold remT; rw [Nat.div_eq_of_lt hx]; simp
theorem quoT_end (x y : Nat) : quoT x y 256 = x / y := by simp [quoT]
theorem remT_end (x y : Nat) : remT x y 256 = x % y := by simp [remT]
theorem bit2_le (x k : Nat) : x / 2 ^ k % 2 ≤ 1 := by omega
theorem remT_next {x y i : Nat} (hy : 0 < y) (h : i < 256) : remT x y (i + 1) = if y ≤ 2 * remT x y i + x / 2 ^ (255 - i) % 2 then 2 * remT x y i + x / 2 ^ (255 - i) % 2 - y else 2 * remT x y i + x / 2 ^ (255 - i) % 2 := by
  unfold remT
  rw [top_next h]
  exact (quo_step hy (bit2_le _ _)).2
theorem quoT_next {x y i : Nat} (hy : 0 < y) (h : i < 256) : quoT x y (i + 1) = quoT x y i + if y ≤ 2 * remT x y i + x / 2 ^ (255 - i) % 2 then 2 ^ (255 - i) else 0 := by
  unfold quoT remT
  rw [top_next h, (quo_step hy (bit2_le _ _)).1, show 256 - (i + 1) = 255 - i by omega, Nat.add_mul]
  congr 1
  · rw [show 256 - i = (255 - i) + 1 by omega, Nat.pow_succ, Nat.mul_comm (2 ^ (255 - i)) 2, ← Nat.mul_assoc, Nat.mul_comm 2]
  · split <;> simp
theorem quoT_dig {x y i : Nat} (h : i < 256) : quoT x y i / 256 ^ (31 - i / 8) % 256 % 2 ^ (7 - i % 8 + 1) = 0 := by
  have e : 256 - i = 8 * (31 - i / 8) + (7 - i % 8 + 1) := by omega
  unfold quoT
  rw [e, Nat.pow_add, p2_256, Nat.mul_comm (256 ^ (31 - i / 8)), ← Nat.mul_assoc, Nat.mul_div_cancel _ (p256_pos _)]
  have hs : 7 - i % 8 < 8 := by omega
  generalize x / _ / y = q
  generalize 7 - i % 8 = s at *
  have e2 : (256 : Nat) = 2 ^ (s + 1) * 2 ^ (7 - s) := by rw [← Nat.pow_add, show s + 1 + (7 - s) = 8 by omega]
  rw [e2, Nat.mod_mul_right_mod, Nat.mul_mod_left]
theorem quoT_or {x y i : Nat} (h : i < 256) : quoT x y i / 256 ^ (31 - i / 8) % 256 ||| 2 ^ (7 - i % 8) = quoT x y i / 256 ^ (31 - i / 8) % 256 + 2 ^ (7 - i % 8) := or_bit (quoT_dig h)
theorem quoT_lt {x y i : Nat} (h : i < 256) : quoT x y i / 256 ^ (31 - i / 8) % 256 + 2 ^ (7 - i % 8) < 256 := by
  have h1 := quoT_dig (x := x) (y := y) h
  have h2 := Nat.mod_lt (quoT x y i / 256 ^ (31 - i / 8)) (by decide : 256 > 0)
  generalize quoT x y i / 256 ^ (31 - i / 8) % 256 = d at *
  have hs : 7 - i % 8 < 8 := by omega
  generalize 7 - i % 8 = s at *
  have : s = 0 ∨ s = 1 ∨ s = 2 ∨ s = 3 ∨ s = 4 ∨ s = 5 ∨ s = 6 ∨ s = 7 := by omega
  rcases this with rfl | rfl | rfl | rfl | rfl | rfl | rfl | rfl <;> simp at * <;> omega
theorem quoT_set {x y i : Nat} (h : i < 256) : setB (quoT x y i) (31 - i / 8) (quoT x y i / 256 ^ (31 - i / 8) % 256 + 2 ^ (7 - i % 8)) = quoT x y i + 2 ^ (255 - i) := by
  have h1 := setB_eq (quoT x y i) (31 - i / 8) (quoT x y i / 256 ^ (31 - i / 8) % 256 + 2 ^ (7 - i % 8))
  have e : 2 ^ (255 - i) = 2 ^ (7 - i % 8) * 256 ^ (31 - i / 8) := by
    rw [← p2_256, ← Nat.pow_add]; congr 1; omega
  rw [Nat.add_mul] at h1
  omega
theorem intsD {xs : List Nat} {i : Nat} (h : i < xs.length) : (ints xs)[i]? = some (.int .i64 ((xs.getD i 0 : Nat) : Int)) := by simp [ints, List.getD_eq_getElem?_getD, h]
theorem price_at {c off : Nat} (h : c < 28) (ho : off = c) : (ints [1, 1, 1, 1, 1, 1, 2, 2, 5, 10, 10, 2, 2, 2, 5, 5, 2, 2, 2, 2, 2, 2, 2, 2, 200, 200, 200, 500])[off]? = some (.int .i64 ((priceN c : Nat) : Int)) := by
  subst ho
  exact intsD h
theorem takes_at {c off : Nat} (h : c < 28) (ho : off = c) : (ints [0, 1, 0, 1, 0, 0, 2, 2, 2, 2, 2, 2, 2, 1, 0, 1, 0, 0, 0, 0, 0, 0, 0, 0, 1, 2, 2, 3])[off]? = some (.int .i64 ((takesN c : Nat) : Int)) := by
  subst ho
  exact intsD h
theorem lays_at {c off : Nat} (h : c < 28) (ho : off = c) : (ints [0, 0, 1, 0, 1, 0, 1, 1, 1, 1, 1, 1, 1, 1, 0, 0, 1, 1, 1, 1, 1, 1, 1, 1, 1, 0, 1, 0])[off]? = some (.int .i64 ((laysN c : Nat) : Int)) := by
  subst ho
  exact intsD h
end Go.Proofs.YtlapmbkfmbkdoaaGreatDoor
end
section
namespace Go.Proofs.YtlapmbkfmbkdoaaGreatDoor
open Go Go.Fw Go.RowKit
attribute [local irreducible] Go.Oper.wp Go.Code.wp Go.wpList Go.Fw.WL Go.Calls
def RunR (r : Played) (v : Value) (s : Seg) : Prop := ∃ A c, v = .tuple #[.agg (wc r.v ++ [Value.int .i64 r.gas]).toArray, .int .i64 r.e, .slice A r.asks.length c] ∧ OwnS s A r.asks.length c (r.asks.flatMap askc) 92 30
theorem PlayIn.old {F : Fx} {w0 w : World} {bs : List Seg} (h : PlayIn F w0) (hS : St w0 [] bs w) : PlayIn F w := ⟨h.ok, h.inner, h.code.old hS, h.args.old hS, h.reps.old hS, h.b1, h.b2, h.b3, h.tok, h.time, h.gas, h.errs⟩
end Go.Proofs.YtlapmbkfmbkdoaaGreatDoor
end
section
namespace Go.Proofs.YtlapmbkfmbkdoaaGreatDoor
open Go Go.Fw Go.RowKit
attribute [local irreducible] Go.Oper.wp Go.Code.wp Go.wpList Go.Fw.WL Go.Calls
theorem rd_app {w : World} {A : Option Addr} {xs ys : List Value} (h : Rd w A (xs ++ ys)) : Rd w A xs := by
  have := h.sub xs.length
  rwa [List.take_left] at this
end Go.Proofs.YtlapmbkfmbkdoaaGreatDoor
end
section
namespace Go.Proofs.YtlapmbkfmbkdoaaGreatDoor
open Go Go.Fw Go.RowKit
attribute [local irreducible] Go.Oper.wp Go.Code.wp Go.wpList Go.Fw.WL Go.Calls
def RetB (n x : Nat) (v : Value) (s : Seg) : Prop := ∃ b, v = .slice (some ⟨b, 0, none⟩) n n ∧ s = [(b, Cel (ints (toB n x)) 3)]
theorem ints_getT {k n t off : Nat} (h : t < k) (ho : off = k - 1 - t) : (ints (toB k n))[off]? = some (.int .i64 ((n / 256 ^ t % 256 : Nat) : Int)) := by
  have := ints_getB (k := k) (n := n) (i := off) (off := off) (by omega) rfl
  rwa [ho, show k - 1 - (k - 1 - t) = t by omega, ← ho] at this
def mkU (N : Nat) (f : Nat → Nat) (k : Nat) : List Value := (List.range N).map fun j => .int .u8 (if j < k then ((f j : Nat) : Int) else 0)
theorem length_mkU (N : Nat) (f : Nat → Nat) (k : Nat) : (mkU N f k).length = N := by simp [mkU]
theorem mkU_at (N : Nat) (f : Nat → Nat) (k off : Nat) (v : Value) (h : v = .int .u8 ((f k : Nat) : Int)) (ho : off = k) : (mkU N f k).set off v = mkU N f (k + 1) := by
  subst h; subst ho
  apply List.ext_getElem?
  intro j
  rw [List.getElem?_set]
  simp only [mkU, List.length_map, List.length_range, List.getElem?_map]
  by_cases hj : j < N
  · by_cases hk : off = j
    · subst hk; simp [hj]
    · simp [hk, hj]
      by_cases h1 : j < off
      · simp [h1, Nat.lt_succ_of_lt h1]
      · have : ¬ j < off + 1 := by omega
        simp [h1, this]
  · by_cases hk : off = j
    · subst hk; simp [hj]
    · simp [hk, hj]
theorem mkU_20 (f : Nat → Nat) : mkU 20 f 20 = adc f := by
  have hE : adc f = (List.range 20).map fun i => Value.int .u8 ((f i : Nat) : Int) := rfl
  rw [hE, mkU]
  apply List.map_congr_left
  intro j hj
  simp [List.mem_range.1 hj]
theorem adc_at {f : Nat → Nat} {i off : Nat} (h : i < 20) (ho : off = i) : (adc f)[off]? = some (.int .u8 ((f i : Nat) : Int)) := by
  subst ho
  have hE : adc f = (List.range 20).map fun i => Value.int .u8 ((f i : Nat) : Int) := rfl
  rw [hE]; simp [h]
theorem who_at (a i : Nat) (h : i < 20) {off : Nat} (ho : off = 12 + i) : (ints (toB 32 a))[off]? = some (.int .i64 ((adF a i : Nat) : Int)) := by
  have := ints_getB (k := 32) (n := a) (i := 12 + i) (off := off) (by omega) ho
  rwa [show 32 - 1 - (12 + i) = 19 - i by omega] at this
theorem tok_iff {a : Nat} (ha : a < 115792089237316195423570985008687907853269984665640564039457584007913129639936) : (dg a 1 = 0 ∧ dg a 2 = 0 ∧ dg a 3 = 0 ∧ dg a 0 < 64) ↔ a < 64 := by
  have h := wide_parts a ha
  have h0 := dg_lt a 0
  constructor
  · rintro ⟨h1, h2, h3, h4⟩; omega
  · intro h4; omega
theorem intsO {xs : List Nat} {i off : Nat} (h : i < xs.length) (ho : off = i) : (ints xs)[off]? = some (.int .i64 ((xs.getD i 0 : Nat) : Int)) := by subst ho; exact intsD h
theorem tok_0 {a : Nat} (ha : a < 64) : dg a 0 = a := by rw [dg0]; omega
theorem ze28b (f : Nat → Nat) : zeT Tryz.prog 29 (.agg (mkU 20 f 0).toArray) := by unfold zeT; kernel_rfl
theorem count_wc {n : Nat} (h : n < 18446744073709551616) : [Value.int .u64 ((n % 18446744073709551616 : Nat) : Int), .int .u64 0, .int .u64 0, .int .u64 0] = wc n := by
  have h0 : dg n 0 = n := by rw [dg0]; omega
  have h1 : dg n 1 = 0 := by rw [dg1]; omega
  have h2 : dg n 2 = 0 := by rw [dg2]; omega
  have h3 : dg n 3 = 0 := by rw [dg3]; omega
  simp only [wc, h0, h1, h2, h3, Nat.mod_eq_of_lt h]; rfl
theorem price_calls (c : Nat) (w0 : World) (hc : c < 28) : Ret Tryz.prog 41 [.int .i64 ((c : Nat) : Int)] w0 [] (fun v s => v = .int .i64 ((priceN c : Nat) : Int) ∧ s = []) := by
 refine fn_start Tryz.func41 Y Tryz.ntmps41 Y [(0, .int .i64 ((c : Nat) : Int))] ⟨Y, trivial⟩ ?_
 intro Q a hP J hR hN
 have G := St.start w0
 refine wp_seq_k fun K1 hK1=> wp_region_lit <| av J Y Y fun a J=> s0 <| then_n (hK1 _ _ <| wp_seq_k fun K2 hK2=> wp_region_lit <| so (wn Y) (O.buildSlice (l := ints [1, 1, 1, 1, 1, 1, 2, 2, 5, 10, 10, 2, 2, 2, 5, 5, 2, 2, 2, 2, 2, 2, 2, 2, 200, 200, 200, 500]) Y Y J Tryz.underlying61 inf3 Y Y (J.evp Y) (by decide) Y G fun b4 a w J G=> ?_))
 refine av J Y Y fun a J=> s0 <| then_n (hK2 _ _ <| wp_seq_k fun K3 hK3=> wp_region_lit <| mv J Y Y fun a J=> mv J Y Y fun a J=> sw J Y Y Y (R.indexS Tryz.underlying61 sz3 (J.ev Y) (J.ev Y) (by omega) (by omega)) fun a J=> sw J Y Y Y (R.load one3 (J.ev Y) G .h (price_at hc (by omega))) fun a J=> av J Y Y fun a J=> s0 <| then_n (hK3 _ _ <| wp_ret (hR _ _ _ _ _ J (run_results Tryz.results41 (.t J Y (.nil))) ?_)))
 exact ⟨_, [], Y, ⟨Y, Y⟩, G.none⟩
theorem wants_calls (c : Nat) (w0 : World) (hc : c < 28) : Ret Tryz.prog 42 [.int .i64 ((c : Nat) : Int)] w0 [] (fun v s => v = .int .i64 ((takesN c : Nat) : Int) ∧ s = []) := by
 refine fn_start Tryz.func42 Y Tryz.ntmps42 Y [(0, .int .i64 ((c : Nat) : Int))] ⟨Y, trivial⟩ ?_
 intro Q a hP J hR hN
 have G := St.start w0
 refine wp_seq_k fun K1 hK1=> wp_region_lit <| av J Y Y fun a J=> s0 <| then_n (hK1 _ _ <| wp_seq_k fun K2 hK2=> wp_region_lit <| so (wn Y) (O.buildSlice (l := ints [0, 1, 0, 1, 0, 0, 2, 2, 2, 2, 2, 2, 2, 1, 0, 1, 0, 0, 0, 0, 0, 0, 0, 0, 1, 2, 2, 3]) Y Y J Tryz.underlying61 inf3 Y Y (J.evp Y) (by decide) Y G fun b4 a w J G=> ?_))
 refine av J Y Y fun a J=> s0 <| then_n (hK2 _ _ <| wp_seq_k fun K3 hK3=> wp_region_lit <| mv J Y Y fun a J=> mv J Y Y fun a J=> sw J Y Y Y (R.indexS Tryz.underlying61 sz3 (J.ev Y) (J.ev Y) (by omega) (by omega)) fun a J=> sw J Y Y Y (R.load one3 (J.ev Y) G .h (takes_at hc (by omega))) fun a J=> av J Y Y fun a J=> s0 <| then_n (hK3 _ _ <| wp_ret (hR _ _ _ _ _ J (run_results Tryz.results42 (.t J Y (.nil))) ?_)))
 exact ⟨_, [], Y, ⟨Y, Y⟩, G.none⟩
theorem leaves_calls (c : Nat) (w0 : World) (hc : c < 28) : Ret Tryz.prog 43 [.int .i64 ((c : Nat) : Int)] w0 [] (fun v s => v = .int .i64 ((laysN c : Nat) : Int) ∧ s = []) := by
 refine fn_start Tryz.func43 Y Tryz.ntmps43 Y [(0, .int .i64 ((c : Nat) : Int))] ⟨Y, trivial⟩ ?_
 intro Q a hP J hR hN
 have G := St.start w0
 refine wp_seq_k fun K1 hK1=> wp_region_lit <| av J Y Y fun a J=> s0 <| then_n (hK1 _ _ <| wp_seq_k fun K2 hK2=> wp_region_lit <| so (wn Y) (O.buildSlice (l := ints [0, 0, 1, 0, 1, 0, 1, 1, 1, 1, 1, 1, 1, 1, 0, 0, 1, 1, 1, 1, 1, 1, 1, 1, 1, 0, 1, 0]) Y Y J Tryz.underlying61 inf3 Y Y (J.evp Y) (by decide) Y G fun b4 a w J G=> ?_))
 refine av J Y Y fun a J=> s0 <| then_n (hK2 _ _ <| wp_seq_k fun K3 hK3=> wp_region_lit <| mv J Y Y fun a J=> mv J Y Y fun a J=> sw J Y Y Y (R.indexS Tryz.underlying61 sz3 (J.ev Y) (J.ev Y) (by omega) (by omega)) fun a J=> sw J Y Y Y (R.load one3 (J.ev Y) G .h (lays_at hc (by omega))) fun a J=> av J Y Y fun a J=> s0 <| then_n (hK3 _ _ <| wp_ret (hR _ _ _ _ _ J (run_results Tryz.results43 (.t J Y (.nil))) ?_)))
 exact ⟨_, [], Y, ⟨Y, Y⟩, G.none⟩
theorem dig_calls (x : Nat) (w0 : World) : Ret Tryz.prog 61 [wv x] w0 [] (RetB 32 x) := by
 refine fn_start Tryz.func61 Y Tryz.ntmps61 Y [(0, wv x)] ⟨Y, trivial⟩ ?_
 intro Q a hP J hR hN
 have G := St.start w0
 refine wp_seq_k fun K1 hK1=> wp_region_lit <| so (wn Y) (O.box Y Y J (J.ev Y) Y G fun b1 a w J G=> ?_)
 refine av J Y Y fun a J=> s0 <| then_n (hK1 _ _ <| wp_seq_k fun K2 hK2=> wp_region_lit <| so (wn Y) (O.makeSlice Y Y J Tryz.underlying61 inf3 Y Y (J.ev Y) (J.ev Y) (by omega) (by omega) (by omega) (by omega) G fun b5 a w J G=> ?_))
 rw [show zeros [Value.int .i64 0] (Int.toNat 32) = mki 32 (fun i => x / 256 ^ (31 - i) % 256) 0 from mki_0 32 _] at G
 refine av J Y Y fun a J=> s0 <| then_n (hK2 _ _ <| wp_seq_k fun K3 hK3=> wp_seq_k fun K4 hK4=> wp_region_lit <| av J Y Y fun a J=> s0 <| then_n (hK4 _ _ <| wp_block <| wp_loop_N (fun g a w=> ∃ (i : Nat), 32 - i = g ∧ Fr 26 [(1, .pointer (some ⟨b1, 0, none⟩)), (3, .slice (some ⟨b5, 0, none⟩) 32 32), (4, .int .i64 ((i : Nat) : Int))] a ∧ St w0 [] [[(b5, Cel (mki 32 (fun i=> x / 256 ^ (31 - i) % 256) i) 3)], [(b1, Cel (wc x) 32)]] w ∧ (i ≤ 32)) (32 - 0) ?_ ?_))
 ·exact ⟨0, Y, J.sub ⟨Y, Y, Y, trivial⟩, G.sel [0, 1] Y Y, by omega⟩
 rintro KL1 g a w ⟨i, hg1, J, G, hi⟩ hKL1
 refine wp_seq_k fun K5 hK5=> wp_seq_k fun K6 hK6=> wp_region_lit <| mv J Y Y fun a J=> lS J Y Y Y fun a J=> s0 <| then_n (hK6 _ _ <| cD J Y (fun c1=> ?_) (fun c1=> ?_))
 ·refine wp_skip <| then_n (hK5 _ _ <| wp_seq_k fun K7 hK7=> wp_block <| wp_region_lit <| mv J Y Y fun a J=> mv J Y Y fun a J=> mv J Y Y fun a J=> sw J Y Y Y (R.quoI (J.ev Y) (J.ev Y) (by omega)) fun a J=> sw J Y Y Y (R.subI (J.ev Y) (J.ev Y) (by omega)) fun a J=> sw J Y Y Y (R.indexA Tryz.underlying32 sz30 (J.ev Y) (J.ev Y) (by omega) (by omega)) fun a J=> sw J Y Y Y (R.load one30 (J.ev Y) G (.t .h) ((by (have h9 := wc_at x (3 - i / 8) (by omega)); simpa using (show (wc x)[((3 : Int) - (i : Int) / 8).toNat * 1]? = _ by rw [show ((3 : Int) - (i : Int) / 8).toNat * 1 = 0 + ((3 - i / 8 : Nat) : Int).toNat * 1 by omega]; exact h9)))) fun a J=> mv J Y Y fun a J=> sw J Y Y Y (R.remI (J.ev Y) (J.ev Y) (by omega)) fun a J=> sw J Y Y Y (R.mulI (J.ev Y) (J.ev Y) (by omega)) fun a J=> sw J Y Y Y (R.subI (J.ev Y) (J.ev Y) (by omega)) fun a J=> sw J Y Y Y (R.shrU (m := 56 - 8 * (i % 8)) (J.ev Y) ((J.ev Y).trans (congrArg (Value.int .i64) (by omega))) (by omega)) fun a J=> sw J Y Y Y (R.as (u := .int .u64 ((x / 256 ^ (31 - i) % 256 : Nat) : Int)) (R.andU (J.ev Y) (J.ev Y) (Nat.lt_of_le_of_lt (Nat.div_le_self _ _) (dg_lt _ _)) (by decide)) (congrArg (fun z : Nat=> Value.int .u64 (z : Int)) (dig_40 (by omega)))) fun a J=> sw J Y Y Y (R.convI Tryz.underlying30 Tryz.underlying3 (J.ev Y) (by omega)) fun a J=> sw J Y Y Y (R.indexS Tryz.underlying61 sz3 (J.ev Y) (J.ev Y) (by omega) (by omega)) fun a J=> so (wn Y) (O.store sz3 (J.ev Y) (J.ev Y) Y Y G .h (mki_at 32 (fun i=> x / 256 ^ (31 - i) % 256) i _ Y) (by rw [length_mki]; omega) fun w G=> ?_))
  refine s0 <| blk_n <| then_n (hK7 _ _ <| wp_region_lit <| mv J Y Y fun a J=> aI J Y Y Y (by omega) fun a J=> av J Y Y fun a J=> s0 <| then_n (hKL1 (32 - (i + 1)) _ _ ?_ ?_))
  ·omega
  exact ⟨i + 1, Y, J.sub ⟨Y, Y, Y, trivial⟩, G.sel [0, 1] Y Y, by omega⟩
 obtain rfl : i = 32 := by omega
 rw [mki_all] at G
 refine wp_exit (then_x (then_x (blk_hit <| then_n (hK3 _ _ <| wp_seq_k fun K8 hK8=> wp_region_lit <| mv J Y Y fun a J=> av J Y Y fun a J=> s0 <| then_n (hK8 _ _ <| wp_ret (hR _ _ _ _ _ J (run_results Tryz.results61 (.t J Y (.nil))) ?_))))))
 exact ⟨_, _, Y, ⟨_, Y, Y⟩, G.one .h⟩
theorem number_calls (A : Option Addr) (c : Nat) (xs : List Nat) (w0 : World) (hA : Rd w0 A (ints xs)) (hB : Byt xs) (hl : xs.length ≤ 32) : Ret Tryz.prog 29 [.slice A xs.length c] w0 [] (fun v s => v = wv (numB xs) ∧ s = []) := by
 refine fn_start Tryz.func29 Y Tryz.ntmps29 Y [(0, .slice A xs.length c)] ⟨Y, trivial⟩ ?_
 intro Q a hP J hR hN
 have G := St.start w0
 refine wp_seq_k fun K1 hK1=> wp_region_lit <| so (wn Y) (O.alloc Y Y J ze32 Y G fun b2 a w J G=> ?_)
 refine s0 <| then_n (hK1 _ _ <| wp_seq_k fun K2 hK2=> wp_region_lit <| so (wn Y) (O.alloc Y Y J ze32 Y G fun b3 a w J G=> ?_))
 refine s0 <| then_n (hK2 _ _ <| wp_seq_k fun K3 hK3=> wp_seq_k fun K4 hK4=> wp_region_lit <| av J Y Y fun a J=> s0 <| then_n (hK4 _ _ <| wp_block <| wp_loop_N (fun g a w=> ∃ (i : Nat), xs.length - i = g ∧ Fr 33 [(0, .slice A xs.length c), (2, .pointer (some ⟨b2, 0, none⟩)), (3, .pointer (some ⟨b3, 0, none⟩)), (4, .int .i64 ((i : Nat) : Int))] a ∧ St w0 [] [[(b3, Cel (wc (upN xs i)) 32)], [(b2, Cel ([.int .u64 0, .int .u64 0, .int .u64 0, .int .u64 0]) 32)]] w ∧ (i ≤ xs.length)) (xs.length - 0) ?_ ?_))
 ·exact ⟨0, Y, J.sub ⟨Y, Y, Y, Y, trivial⟩, G.sel [0, 1] Y (by rw [upN_0]; rfl), by omega⟩
 rintro KL1 g a w ⟨i, hg1, J, G, hi⟩ hKL1
 refine wp_seq_k fun K5 hK5=> wp_seq_k fun K6 hK6=> wp_region_lit <| mv J Y Y fun a J=> mv J Y Y fun a J=> sw J Y Y Y (R.len Tryz.underlying61 (J.ev Y)) fun a J=> lS J Y Y Y fun a J=> s0 <| then_n (hK6 _ _ <| cD J Y (fun c1=> ?_) (fun c1=> ?_))
 ·refine wp_skip <| then_n (hK5 _ _ <| wp_seq_k fun K7 hK7=> wp_block <| wp_seq_k fun K8 hK8=> wp_region_lit <| mv J Y Y fun a J=> sw J Y Y Y (R.len Tryz.underlying61 (J.ev Y)) fun a J=> sw J Y Y Y (R.subI (J.ev Y) (J.ev Y) (by omega)) fun a J=> mv J Y Y fun a J=> sw J Y Y Y (R.subI (J.ev Y) (J.ev Y) (by omega)) fun a J=> av J Y Y fun a J=> s0 <| then_n (hK8 _ _ <| wp_drawS G [(0, 0), (1, 0), (2, 0), (3, 1), (4, 0), (5, 0), (6, 0), (7, 1), (8, 0), (9, 0), (10, 0), (11, 0), (12, 0), (13, 0), (14, 0), (15, 3)] mix (by kernel_rfl) (hP.then.block.then.then.block) fun w G=> ?_))
  have hD := G
  refine dm J Y Y Y fun a J=> dv J Y Y Y Y (fun w=> R.quoI (J.ev Y) (J.ev Y) (by omega)) fun a J=> dv J Y Y Y Y (fun w=> R.indexA Tryz.underlying32 sz30 (J.ev Y) (J.ev Y) (by omega) (by omega)) fun a J=> ds J Y Y Y Y hD (fun w hD=> R.load one30 (J.ev Y) hD .h (upN_at (k := (xs.length - 1 - i) / 8) (by omega) (by omega))) fun a J=> ?_
  refine dm J Y Y Y fun a J=> dm J Y Y Y fun a J=> dv J Y Y Y Y (fun w=> R.indexO Tryz.underlying61 sz3 (J.ev Y) (Rd.ne hA (by rw [length_ints]; omega)) (J.ev Y) (by omega) (by omega)) fun a J=> ds J Y Y Y Y hD (fun w hD=> R.loadO one3 (J.ev Y) (hA.old hD) (intsO (i := i) (by omega) (by omega))) fun a J=> ?_
  refine dv J Y Y Y Y (fun w=> R.as (u := .int .u64 ((xs.getD i 0 : Nat) : Int)) (R.convU Tryz.underlying3 Tryz.underlying30 (J.ev Y)) (congrArg (fun z : Nat=> Value.int .u64 (z : Int)) (Nat.mod_eq_of_lt (by have := byt_getD hB i; omega)))) fun a J=> dm J Y Y Y fun a J=> dv J Y Y Y Y (fun w=> R.remI (J.ev Y) (J.ev Y) (by omega)) fun a J=> dv J Y Y Y Y (fun w=> R.mulI (J.ev Y) (J.ev Y) (by omega)) fun a J=> dv J Y Y Y Y (fun w=> R.shlU (m := 8 * ((xs.length - 1 - i) % 8)) (J.ev Y) ((J.ev Y).trans (congrArg (Value.int .i64) (by omega))) (by omega)) fun a J=> dv J Y Y Y Y (fun w=> R.orU (J.ev Y) (J.ev Y) (dg_lt _ _) (Nat.mod_lt _ (by decide))) fun a J=> dv J Y Y Y Y (fun w=> R.indexA Tryz.underlying32 sz30 (J.ev Y) (J.ev Y) (by omega) (by omega)) fun a J=> dw Y (wn Y) (O.store sz30 (J.ev Y) (J.ev Y) Y Y G .h (wc_ord (V := upN xs i) (i := xs.length - 1 - i) (upN_mod (by omega)) (byt_getD hB i) (by omega)) (by show _ < 4; omega) fun w G=> ?_)
  rw [upN_succ (by omega)] at G
  refine d0 <| blk_n <| then_n (hK7 _ _ <| wp_region_lit <| mv J Y Y fun a J=> aI J Y Y Y (by omega) fun a J=> av J Y Y fun a J=> s0 <| then_n (hKL1 (xs.length - (i + 1)) _ _ ?_ ?_))
  ·omega
  exact ⟨i + 1, Y, J.sub ⟨Y, Y, Y, (congrArg (fun z => some (Value.int .i64 z)) (by omega)), trivial⟩, G.sel [0, 1] Y Y, by omega⟩
 obtain rfl : i = xs.length := by omega
 rw [upN_all] at G
 refine wp_exit (then_x (then_x (blk_hit <| then_n (hK3 _ _ <| wp_seq_k fun K9 hK9=> wp_region_lit <| sw J Y Y Y (R.loadW agg32 (J.ev Y) G .h sz32 (Y)) fun a J=> so (wn Y) (O.storeW sz32 (J.ev Y) (J.ev Y) (Y) Y (by simp [Value.oneCell']) G (.t .h) (Y) fun w G=> ?_)))))
 refine s0 <| then_n (hK9 _ _ <| wp_ret (hR _ _ _ _ _ J (run_results Tryz.results29 (.cw J Y agg32 G (.t .h) sz32 (Y) (.nil))) ?_))
 exact ⟨_, [], Y, ⟨Y, Y⟩, G.none⟩
theorem rtruth_calls (p : Prop) [Decidable p] (w0 : World) : Ret Tryz.prog 45 [.bool (decide p)] w0 [] (fun v s => v = wv (bit1 (decide p)) ∧ s = []) := by
 refine fn_start Tryz.func45 Y Tryz.ntmps45 Y [(0, .bool (decide p))] ⟨Y, trivial⟩ ?_
 intro Q a hP J hR hN
 have G := St.start w0
 refine wp_seq_k fun K1 hK1=> wp_region_lit <| so (wn Y) (O.alloc Y Y J ze32 Y G fun b2 a w J G=> ?_)
 refine s0 <| then_n (hK1 _ _ <| wp_seq_k fun K2 hK2=> wp_seq_k fun K3 hK3=> wp_region_lit <| mv J Y Y fun a J=> s0 <| then_n (hK3 _ _ <| cD J Y (fun c1=> ?_) (fun c1=> ?_)))
 ·refine wp_seq_k fun K4 hK4=> wp_region_lit <| sw J Y Y Y (R.buildArr (l := [_, _, _, _]) Tryz.underlying32 ze32 sz30 (J.evp Y) Y) fun a J=> so (wn Y) (O.storeW sz32 (J.ev Y) (J.ev Y) (Y) Y (by simp [Value.oneCell']) G .h (Y) fun w G=> ?_)
  refine s0 <| then_n (hK4 _ _ <| wp_ret (then_r (hR _ _ _ _ _ J (run_results Tryz.results45 (.cw J Y agg32 G .h sz32 (Y) (.nil))) ?_)))
  exact ⟨_, [], Y, ⟨by rw [decide_eq_true c1]; rfl, Y⟩, G.none⟩
 refine wp_skip <| then_n (hK2 _ _ <| wp_seq_k fun K5 hK5=> wp_region_lit <| sw J Y Y Y (R.buildArr (l := [_, _, _, _]) Tryz.underlying32 ze32 sz30 (J.evp Y) Y) fun a J=> so (wn Y) (O.storeW sz32 (J.ev Y) (J.ev Y) (Y) Y (by simp [Value.oneCell']) G .h (Y) fun w G=> ?_))
 refine s0 <| then_n (hK5 _ _ <| wp_ret (hR _ _ _ _ _ J (run_results Tryz.results45 (.cw J Y agg32 G .h sz32 (Y) (.nil))) ?_))
 exact ⟨_, [], Y, ⟨by rw [decide_eq_false c1]; rfl, Y⟩, G.none⟩
theorem nought_calls (x : Nat) (w0 : World) (hx : x < 115792089237316195423570985008687907853269984665640564039457584007913129639936) : Ret Tryz.prog 46 [wv x] w0 [] (fun v s => v = .bool (decide (x = 0)) ∧ s = []) := by
 refine fn_start Tryz.func46 Y Tryz.ntmps46 Y [(0, wv x)] ⟨Y, trivial⟩ ?_
 intro Q a hP J hR hN
 have G := St.start w0
 refine wp_seq_k fun K1 hK1=> wp_region_lit <| so (wn Y) (O.box Y Y J (J.ev Y) Y G fun b1 a w J G=> ?_)
 refine av J Y Y fun a J=> s0 <| then_n (hK1 _ _ <| wp_seq_k fun K2 hK2=> wp_region_lit <| sw J Y Y Y (R.loadW agg32 (J.ev Y) G .h sz32 (Y)) fun a J=> sw J Y Y Y (R.buildArr (l := [_, _, _, _]) Tryz.underlying32 ze32 sz30 (J.evp Y) Y) fun a J=> sw J Y Y Y (R.eqlW (x := x) (y := 0) (J.ev Y) (J.ev Y) hx (by decide)) fun a J=> av J Y Y fun a J=> s0 <| then_n (hK2 _ _ <| wp_ret (hR _ _ _ _ _ J (run_results Tryz.results46 (.t J Y (.nil))) ?_)))
 exact ⟨_, [], Y, ⟨Y, Y⟩, G.none⟩
theorem token_calls (x : Nat) (w0 : World) (hx : x < 115792089237316195423570985008687907853269984665640564039457584007913129639936) (ht : (dg x 1 = 0 ∧ dg x 2 = 0 ∧ dg x 3 = 0 ∧ dg x 0 < 64) ↔ x < 64) : Ret Tryz.prog 47 [wv x] w0 [] (fun v s => v = .int .i64 (if x < 64 then ((x : Nat) : Int) else -1) ∧ s = []) := by
 refine fn_start Tryz.func47 Y Tryz.ntmps47 Y [(0, wv x)] ⟨Y, trivial⟩ ?_
 intro Q a hP J hR hN
 have G := St.start w0
 refine wp_seq_k fun K1 hK1=> wp_region_lit <| so (wn Y) (O.box Y Y J (J.ev Y) Y G fun b1 a w J G=> ?_)
 refine av J Y Y fun a J=> s0 <| then_n (hK1 _ _ <| wp_seq_k fun K2 hK2=> wp_seq_k fun K3 hK3=> ?_)
 have hK3' : ∀ a w, (Fr 24 [(1, .pointer (some ⟨b1, 0, none⟩)), (20, .bool (decide (¬ x < 64)))] a ∧ St w0 [] [[(b1, Cel (wc x) 32)]] w) → K3 a w := by
  rintro a w ⟨J, G⟩
  refine hK3 _ _ ?_
  refine cD J Y (fun c1=> ?_) (fun c1=> ?_)
  ·refine wp_seq_k fun K4 hK4=> wp_region_lit <| av J Y Y fun a J=> s0 <| then_n (hK4 _ _ <| wp_ret (then_r (hR _ _ _ _ _ J (run_results Tryz.results47 (.t J Y (.nil))) ?_)))
   exact ⟨_, [], Y, ⟨by rw [if_neg c1]; rfl, Y⟩, G.none⟩
  refine wp_skip <| then_n (hK2 _ _ <| wp_seq_k fun K5 hK5=> wp_region_lit <| sw J Y Y Y (R.indexA Tryz.underlying32 sz30 (J.ev Y) (J.ev Y) (by omega) (by omega)) fun a J=> sw J Y Y Y (R.load one30 (J.ev Y) G .h (Y)) fun a J=> ?_)
  have h0 := dg_lt x 0; have ht0 := tok_0 (a := x) (by omega)
  refine sw J Y Y Y (R.convI Tryz.underlying30 Tryz.underlying3 (J.ev Y) (by omega)) fun a J=> av J Y Y fun a J=> s0 <| then_n (hK5 _ _ <| wp_ret (hR _ _ _ _ _ J (run_results Tryz.results47 (.t J Y (.nil))) ?_))
  exact ⟨_, [], Y, ⟨by rw [if_pos (by omega), tok_0 (by omega)]; rfl, Y⟩, G.none⟩
 refine wp_region_lit <| sw J Y Y Y (R.indexA Tryz.underlying32 sz30 (J.ev Y) (J.ev Y) (by omega) (by omega)) fun a J=> sw J Y Y Y (R.load one30 (J.ev Y) G .h (Y)) fun a J=> sw J Y Y Y (R.neq (J.ev Y) (J.ev Y)) fun a J=> mv J Y Y fun a J=> J.splitD (t := 6) Y (fun h6 J=> ?_) (fun h6 J=> ?_)
 ·refine kz J Y Y Y Y Y Y fun a J=> kz J Y Y Y Y Y Y fun a J=> kz J Y Y Y Y Y Y fun a J=> pT J Y Y Y fun a J=> mv J Y Y fun a J=> kz J Y Y Y Y Y Y fun a J=> kz J Y Y Y Y Y Y fun a J=> kz J Y Y Y Y Y Y fun a J=> pT J Y Y Y fun a J=> mv J Y Y fun a J=> kz J Y Y Y Y Y Y fun a J=> kz J Y Y Y Y Y Y fun a J=> kz J Y Y Y Y Y Y fun a J=> pT J Y Y Y fun a J=> s0 ?_
  exact then_n (hK3' _ _ ⟨J.sub ⟨Y, (congrArg (fun z => some (Value.bool z)) (by first | exact (decide_eq_true (by omega)).symm | exact (decide_eq_false (by omega)).symm | exact decide_eq_decide.2 (by omega))), trivial⟩, G.sel [0] Y Y⟩)
 refine sv' J (wy J Y Y Y) Y Y (R.indexA Tryz.underlying32 sz30 (J.ev Y) (J.ev Y) (by omega) (by omega)) fun a J=> sv' J (wy J Y Y Y) Y Y (R.load one30 (J.ev Y) G .h (Y)) fun a J=> sv' J (wy J Y Y Y) Y Y (R.neq (J.ev Y) (J.ev Y)) fun a J=> pF J Y Y Y fun a J=> mv J Y Y fun a J=> J.splitD (t := 11) Y (fun h11 J=> ?_) (fun h11 J=> ?_)
 ·refine kz J Y Y Y Y Y Y fun a J=> kz J Y Y Y Y Y Y fun a J=> kz J Y Y Y Y Y Y fun a J=> pT J Y Y Y fun a J=> mv J Y Y fun a J=> kz J Y Y Y Y Y Y fun a J=> kz J Y Y Y Y Y Y fun a J=> kz J Y Y Y Y Y Y fun a J=> pT J Y Y Y fun a J=> s0 ?_
  exact then_n (hK3' _ _ ⟨J.sub ⟨Y, (congrArg (fun z => some (Value.bool z)) (by first | exact (decide_eq_true (by omega)).symm | exact (decide_eq_false (by omega)).symm | exact decide_eq_decide.2 (by omega))), trivial⟩, G.sel [0] Y Y⟩)
 refine sv' J (wy J Y Y Y) Y Y (R.indexA Tryz.underlying32 sz30 (J.ev Y) (J.ev Y) (by omega) (by omega)) fun a J=> sv' J (wy J Y Y Y) Y Y (R.load one30 (J.ev Y) G .h (Y)) fun a J=> sv' J (wy J Y Y Y) Y Y (R.neq (J.ev Y) (J.ev Y)) fun a J=> pF J Y Y Y fun a J=> mv J Y Y fun a J=> J.splitD (t := 16) Y (fun h16 J=> ?_) (fun h16 J=> ?_)
 ·refine kz J Y Y Y Y Y Y fun a J=> kz J Y Y Y Y Y Y fun a J=> kz J Y Y Y Y Y Y fun a J=> pT J Y Y Y fun a J=> s0 ?_
  exact then_n (hK3' _ _ ⟨J.sub ⟨Y, (congrArg (fun z => some (Value.bool z)) (by first | exact (decide_eq_true (by omega)).symm | exact (decide_eq_false (by omega)).symm | exact decide_eq_decide.2 (by omega))), trivial⟩, G.sel [0] Y Y⟩)
 refine sv' J (wy J Y Y Y) Y Y (R.indexA Tryz.underlying32 sz30 (J.ev Y) (J.ev Y) (by omega) (by omega)) fun a J=> sv' J (wy J Y Y Y) Y Y (R.load one30 (J.ev Y) G .h (Y)) fun a J=> sv' J (wy J Y Y Y) Y Y (R.geq (J.ev Y) (J.ev Y)) fun a J=> pF J Y Y Y fun a J=> s0 ?_
 exact then_n (hK3' _ _ ⟨J.sub ⟨Y, (congrArg (fun z => some (Value.bool z)) (by first | exact (decide_eq_true (by omega)).symm | exact (decide_eq_false (by omega)).symm | exact decide_eq_decide.2 (by omega))), trivial⟩, G.sel [0] Y Y⟩)
theorem rcount_calls (n : Nat) (w0 : World) (hn : n < 18446744073709551616) : Ret Tryz.prog 60 [.int .i64 ((n : Nat) : Int)] w0 [] (fun v s => v = wv (n) ∧ s = []) := by
 refine fn_start Tryz.func60 Y Tryz.ntmps60 Y [(0, .int .i64 ((n : Nat) : Int))] ⟨Y, trivial⟩ ?_
 intro Q a hP J hR hN
 have G := St.start w0
 refine wp_seq_k fun K1 hK1=> wp_region_lit <| so (wn Y) (O.alloc Y Y J ze32 Y G fun b2 a w J G=> ?_)
 refine s0 <| then_n (hK1 _ _ <| wp_seq_k fun K2 hK2=> wp_region_lit <| mv J Y Y fun a J=> sw J Y Y Y (R.convU Tryz.underlying3 Tryz.underlying30 (J.ev Y)) fun a J=> sw J Y Y Y (R.buildArr (l := [_, _, _, _]) Tryz.underlying32 ze32 sz30 (J.evp Y) Y) fun a J=> so (wn Y) (O.storeW sz32 (J.ev Y) (J.ev Y) (Y) Y (by simp [Value.oneCell']) G .h (Y) fun w G=> ?_))
 refine s0 <| then_n (hK2 _ _ <| wp_ret (hR _ _ _ _ _ J (run_results Tryz.results60 (.cw J Y agg32 G .h sz32 (Y) (.nil))) ?_))
 exact ⟨_, [], Y, ⟨congrArg (fun l : List Value => Value.agg l.toArray) (count_wc (by omega)), Y⟩, G.none⟩
theorem answer_calls (A : Option Addr) (c k : Nat) (l : List (Nat × Int)) (w0 : World) (hQ : Rd w0 A (l.flatMap repc)) : Ret Tryz.prog 50 [.slice A l.length c, .int .i64 ((k : Nat) : Int)] w0 [] (fun v s => v = .agg (repc (l.getD k (0, 0))).toArray ∧ s = []) := by
 refine fn_start Tryz.func50 Y Tryz.ntmps50 Y [(0, .slice A l.length c), (1, .int .i64 ((k : Nat) : Int))] ⟨Y, Y, trivial⟩ ?_
 intro Q a hP J hR hN
 have G := St.start w0
 refine wp_seq_k fun K1 hK1=> wp_region_lit <| so (wn Y) (O.alloc Y Y J ze97 Y G fun b4 a w J G=> ?_)
 refine s0 <| then_n (hK1 _ _ <| wp_seq_k fun K2 hK2=> wp_seq_k fun K3 hK3=> wp_region_lit <| mv J Y Y fun a J=> mv J Y Y fun a J=> sw J Y Y Y (R.len Tryz.underlying36 (J.ev Y)) fun a J=> lS J Y Y Y fun a J=> s0 <| then_n (hK3 _ _ <| cD J Y (fun c1=> ?_) (fun c1=> ?_)))
 ·refine wp_seq_k fun K4 hK4=> wp_region_lit <| mv J Y Y fun a J=> mv J Y Y fun a J=> sw J Y Y Y (R.indexO Tryz.underlying36 sz97 (J.ev Y) (Rd.ne hQ (by rw [reps_length]; omega)) (J.ev Y) (by omega) (by omega)) fun a J=> sw J Y Y Y (R.loadAO (cs := repc (l.getD k (0, 0))) agg97 (J.ev Y) (hQ.old G) sz97 Y (Nat.succ_pos _) (reps_at (k := k) (by omega) (by omega))) fun a J=> so (wn Y) (O.storeW sz97 (J.ev Y) (J.ev Y) (Y) Y (one_repc _) G .h (Y) fun w G=> ?_)
  refine s0 <| then_n (hK4 _ _ <| wp_ret (then_r (hR _ _ _ _ _ J (run_results Tryz.results50 (.cw J Y agg97 G .h sz97 (Y) (.nil))) ?_)))
  exact ⟨_, [], Y, ⟨Y, Y⟩, G.none⟩
 refine wp_skip <| then_n (hK2 _ _ <| wp_seq_k fun K5 hK5=> wp_region_lit <| sw J Y Y Y (R.buildStr (l := [_, _, _, _, _]) Tryz.underlying97 ze97 pl97 (J.evp Y) Y) fun a J=> so (wn Y) (O.storeW sz97 (J.ev Y) (J.ev Y) (Y) Y (by simp [Value.oneCell']) G .h (Y) fun w G=> ?_))
 refine s0 <| then_n (hK5 _ _ <| wp_ret (hR _ _ _ _ _ J (run_results Tryz.results50 (.cw J Y agg97 G .h sz97 (Y) (.nil))) ?_))
 exact ⟨_, [], Y, ⟨by rw [List.getD_eq_getElem?_getD, List.getElem?_eq_none (by omega)]; rfl, Y⟩, G.none⟩
theorem addr_calls (x : Nat) (w0 : World) : Ret Tryz.prog 48 [wv x] w0 [] (fun v s => v = .agg (adc (adF x)).toArray ∧ s = []) := by
 refine fn_start Tryz.func48 Y Tryz.ntmps48 Y [(0, wv x)] ⟨Y, trivial⟩ ?_
 intro Q a hP J hR hN
 have G := St.start w0
 refine wp_seq_k fun K1 hK1=> wp_region_lit <| so (wn Y) (O.box Y Y J (J.ev Y) Y G fun b1 a w J G=> ?_)
 refine so (wn Y) (O.alloc Y Y J (ze28b (adF x)) Y G fun b2 a w J G=> ?_)
 refine s0 <| then_n (hK1 _ _ <| wp_seq_k fun K2 hK2=> wp_region_lit <| so (wn Y) (O.alloc Y Y J (ze28b (adF x)) Y G fun b3 a w J G=> ?_))
 refine s0 <| then_n (hK2 _ _ <| wp_seq_k fun K3 hK3=> wp_region_lit <| sw J Y Y Y (R.loadW agg32 (J.ev Y) G (.t (.t .h)) sz32 (Y)) fun a J=> so (wn Y) (O.call Y Y J ent61 (J.evs Y) G (dig_calls x w) fun v s7 a w hR J G=> ?_))
 obtain ⟨b7, rfl, rfl⟩ := hR
 refine av J Y Y fun a J=> s0 <| then_n (hK3 _ _ <| wp_seq_k fun K4 hK4=> wp_seq_k fun K5 hK5=> wp_region_lit <| av J Y Y fun a J=> s0 <| then_n (hK5 _ _ <| wp_block <| wp_loop_N (fun g a w=> ∃ (i : Nat), 20 - i = g ∧ Fr 21 [(2, .pointer (some ⟨b2, 0, none⟩)), (3, .pointer (some ⟨b3, 0, none⟩)), (4, .slice (some ⟨b7, 0, none⟩) 32 32), (5, .int .i64 ((i : Nat) : Int))] a ∧ St w0 [] [[(b7, Cel (ints (toB 32 x)) 3)], [(b3, Cel (mkU 20 (adF x) i) 29)], [(b2, Cel (mkU 20 (adF x) 0) 29)]] w ∧ (i ≤ 20)) (20 - 0) ?_ ?_))
 ·exact ⟨0, Y, J.sub ⟨Y, Y, Y, Y, trivial⟩, G.sel [0, 1, 2] Y Y, by omega⟩
 rintro KL1 g a w ⟨i, hg1, J, G, hi⟩ hKL1
 refine wp_seq_k fun K6 hK6=> wp_seq_k fun K7 hK7=> wp_region_lit <| mv J Y Y fun a J=> lS J Y Y Y fun a J=> s0 <| then_n (hK7 _ _ <| cD J Y (fun c1=> ?_) (fun c1=> ?_))
 ·refine wp_skip <| then_n (hK6 _ _ <| wp_seq_k fun K8 hK8=> wp_block <| wp_region_lit <| mv J Y Y fun a J=> mv J Y Y fun a J=> mv J Y Y fun a J=> aI J Y Y Y (by omega) fun a J=> sw J Y Y Y (R.indexS Tryz.underlying61 sz3 (J.ev Y) (J.ev Y) (by omega) (by omega)) fun a J=> sw J Y Y Y (R.load one3 (J.ev Y) G .h (who_at x i (by omega) (by omega))) fun a J=> sw J Y Y Y (R.convB Tryz.underlying3 Tryz.underlying5 (J.ev Y)) fun a J=> sw J Y Y Y (R.indexA Tryz.underlying29 sz5 (J.ev Y) (J.ev Y) (by omega) (by omega)) fun a J=> so (wn Y) (O.store sz5 (J.ev Y) (J.ev Y) Y Y G (.t .h) (mkU_at 20 (adF x) i _ _ (congrArg (fun z : Nat=> Value.int .u8 (z : Int)) (Nat.mod_eq_of_lt (Nat.mod_lt _ (by decide)))) (by omega)) (by rw [length_mkU]; omega) fun w G=> ?_))
  refine s0 <| blk_n <| then_n (hK8 _ _ <| wp_region_lit <| mv J Y Y fun a J=> aI J Y Y Y (by omega) fun a J=> av J Y Y fun a J=> s0 <| then_n (hKL1 (20 - (i + 1)) _ _ ?_ ?_))
  ·omega
  exact ⟨i + 1, Y, J.sub ⟨Y, Y, Y, (congrArg (fun z => some (Value.int .i64 z)) (by omega)), trivial⟩, G.sel [0, 1, 2] Y Y, by omega⟩
 obtain rfl : i = 20 := by omega
 rw [mkU_20] at G
 refine wp_exit (then_x (then_x (blk_hit <| then_n (hK4 _ _ <| wp_seq_k fun K9 hK9=> wp_region_lit <| sw J Y Y Y (R.loadW agg29 (J.ev Y) G (.t .h) sz29 (Y)) fun a J=> so (wn Y) (O.storeW sz29 (J.ev Y) (J.ev Y) (Y) Y (one_adc _) G (.t (.t .h)) (Y) fun w G=> ?_)))))
 refine s0 <| then_n (hK9 _ _ <| wp_ret (hR _ _ _ _ _ J (run_results Tryz.results48 (.cw J Y agg29 G (.t (.t .h)) sz29 (Y) (.nil))) ?_))
 exact ⟨_, [], Y, ⟨Y, Y⟩, G.none⟩
theorem wideAd_calls (f : Nat → Nat) (w0 : World) (hf : ∀ i, f i < 256) : Ret Tryz.prog 100 [.agg (adc f).toArray] w0 [] (fun v s => v = wv (adN f) ∧ s = []) := by
 refine fn_start Tryz.func100 Y Tryz.ntmps100 Y [(0, .agg (adc f).toArray)] ⟨Y, trivial⟩ ?_
 intro Q a hP J hR hN
 have G := St.start w0
 refine wp_seq_k fun K1 hK1=> wp_region_lit <| so (wn Y) (O.box Y Y J (J.ev Y) Y G fun b1 a w J G=> ?_)
 refine so (wn Y) (O.alloc Y Y J ze32 Y G fun b2 a w J G=> ?_)
 refine s0 <| then_n (hK1 _ _ <| wp_seq_k fun K2 hK2=> wp_region_lit <| so (wn Y) (O.makeSlice Y Y J Tryz.underlying61 inf3 Y Y (J.ev Y) (J.ev Y) (by omega) (by omega) (by omega) (by omega) G fun b5 a w J G=> ?_))
 rw [show zeros [Value.int .i64 0] (Int.toNat 20) = mki 20 f 0 from mki_0 20 _] at G
 refine av J Y Y fun a J=> s0 <| then_n (hK2 _ _ <| wp_seq_k fun K3 hK3=> wp_seq_k fun K4 hK4=> wp_region_lit <| av J Y Y fun a J=> s0 <| then_n (hK4 _ _ <| wp_block <| wp_loop_N (fun g a w=> ∃ (i : Nat), 20 - i = g ∧ Fr 19 [(1, .pointer (some ⟨b1, 0, none⟩)), (2, .pointer (some ⟨b2, 0, none⟩)), (3, .slice (some ⟨b5, 0, none⟩) 20 20), (4, .int .i64 ((i : Nat) : Int))] a ∧ St w0 [] [[(b5, Cel (mki 20 f i) 3)], [(b2, Cel ([.int .u64 0, .int .u64 0, .int .u64 0, .int .u64 0]) 32)], [(b1, Cel (adc f) 29)]] w ∧ (i ≤ 20)) (20 - 0) ?_ ?_))
 ·exact ⟨0, Y, J.sub ⟨Y, Y, Y, Y, trivial⟩, G.sel [0, 1, 2] Y Y, by omega⟩
 rintro KL1 g a w ⟨i, hg1, J, G, hi⟩ hKL1
 refine wp_seq_k fun K5 hK5=> wp_seq_k fun K6 hK6=> wp_region_lit <| mv J Y Y fun a J=> lS J Y Y Y fun a J=> s0 <| then_n (hK6 _ _ <| cD J Y (fun c1=> ?_) (fun c1=> ?_))
 ·refine wp_skip <| then_n (hK5 _ _ <| wp_seq_k fun K7 hK7=> wp_block <| wp_region_lit <| mv J Y Y fun a J=> mv J Y Y fun a J=> mv J Y Y fun a J=> sw J Y Y Y (R.indexA Tryz.underlying29 sz5 (J.ev Y) (J.ev Y) (by omega) (by omega)) fun a J=> ?_)
  have hfi := hf i
  refine sw J Y Y Y (R.load one5 (J.ev Y) G (.t (.t .h)) (adc_at (i := i) (by omega) (by omega))) fun a J=> sw J Y Y Y (R.convI Tryz.underlying5 Tryz.underlying3 (J.ev Y) (by omega)) fun a J=> sw J Y Y Y (R.indexS Tryz.underlying61 sz3 (J.ev Y) (J.ev Y) (by omega) (by omega)) fun a J=> so (wn Y) (O.store sz3 (J.ev Y) (J.ev Y) Y Y G .h (mki_at 20 f i _ Y) (by rw [length_mki]; omega) fun w G=> ?_)
  refine s0 <| blk_n <| then_n (hK7 _ _ <| wp_region_lit <| mv J Y Y fun a J=> aI J Y Y Y (by omega) fun a J=> av J Y Y fun a J=> s0 <| then_n (hKL1 (20 - (i + 1)) _ _ ?_ ?_))
  ·omega
  exact ⟨i + 1, Y, J.sub ⟨Y, Y, Y, Y, trivial⟩, G.sel [0, 1, 2] Y Y, by omega⟩
 obtain rfl : i = 20 := by omega
 rw [mki_all] at G
 refine wp_exit (then_x (then_x (blk_hit <| then_n (hK3 _ _ <| wp_seq_k fun K8 hK8=> wp_region_lit <| mv J Y Y fun a J=> so (wn Y) (O.call Y Y J ent29 (J.evs Y) G (number_calls (some ⟨b5, 0, none⟩) 20 ((List.range 20).map f) w (Rd.own0 G .h) (byt_range hf 20) (by simp)) fun v s18 a w hR J G=> ?_)))))
 obtain ⟨rfl, rfl⟩ := hR
 refine so (wn Y) (O.storeW sz32 (J.ev Y) (J.ev Y) (Y) Y (by simp [Value.oneCell']) G (.t (.t .h)) (Y) fun w G=> ?_)
 refine s0 <| then_n (hK8 _ _ <| wp_ret (hR _ _ _ _ _ J (run_results Tryz.results100 (.cw J Y agg32 G (.t (.t .h)) sz32 (Y) (.nil))) ?_))
 exact ⟨_, [], Y, ⟨Y, Y⟩, G.none⟩
end Go.Proofs.YtlapmbkfmbkdoaaGreatDoor
end
section
namespace Go.Proofs.YtlapmbkfmbkdoaaGreatDoor
open Go Go.Fw Go.RowKit
attribute [local irreducible] Go.Oper.wp Go.Code.wp Go.wpList Go.Fw.WL Go.Calls
theorem R.mulN {P : Program} {ρ : Operand → Value} {w : World} {dst : Option Tmp} {ty : TypeId} {pos : String} {af : Array Edge} {g : Option (Nat × Bool)} {x y : Operand} {T T' : TypeId} {p q : Nat} (hx : ρ x = .int .i64 ((p : Nat) : Int)) (hy : ρ y = .int .i64 ((q : Nat) : Int)) (h : p * q ≤ 1000000) :
    (execOp ρ ⟨dst, .binOp .mul T x y T', ty, pos, af, g⟩).run P w = .ok (.value (.int .i64 ((p * q : Nat) : Int))) w := by
  have := R.mulI (P := P) (w := w) (dst := dst) (ty := ty) (pos := pos) (af := af) (g := g) (T := T) (T' := T') hx hy (by rw [← Int.natCast_mul]; omega)
  rw [this, Int.natCast_mul]
theorem bw_1 {x y t : Nat} (h : x / 256 ^ t % 256 < y / 256 ^ t % 256 + bwB x y t) : bwB x y (t + 1) = 1 := by rw [less_bw, if_pos h]
theorem bw_n {x y t : Nat} (h : ¬ x / 256 ^ t % 256 < y / 256 ^ t % 256 + bwB x y t) : bwB x y (t + 1) = 0 := by rw [less_bw, if_neg h]
theorem sum_lt33 {x y : Nat} (hx : x < 256 ^ 32) (hy : y < 256 ^ 32) : x + y < 256 ^ (32 + 1) := by
  have h33 : (256 : Nat) ^ (32 + 1) = 256 * 256 ^ 32 := by rw [Nat.pow_succ, Nat.mul_comm]
  omega
theorem bwB_le (x y t : Nat) : bwB x y t ≤ 1 := by unfold bwB; split <;> omega
theorem toB_pw {n v : Nat} : toB n (v % 256 ^ n) = toB n v := toB_mod n v
theorem plus_calls (A B : Option Addr) (c d x y : Nat) (w0 : World) (hA : Rd w0 A (ints (toB 32 x))) (hB : Rd w0 B (ints (toB 32 y))) (hx : x < 256 ^ 32) (hy : y < 256 ^ 32) : Ret Tryz.prog 95 [.slice A 32 c, .slice B 32 d] w0 [] (RetB 33 (x + y)) := by
 refine fn_start Tryz.func95 Y Tryz.ntmps95 Y [(0, .slice A 32 c), (1, .slice B 32 d)] ⟨Y, Y, trivial⟩ ?_
 intro Q a hP J hR hN
 have G := St.start w0
 refine wp_seq_k fun K1 hK1=> wp_region_lit <| av J Y Y fun a J=> s0 <| then_n (hK1 _ _ <| wp_seq_k fun K2 hK2=> wp_region_lit <| mv J Y Y fun a J=> sw J Y Y Y (R.len Tryz.underlying61 (J.ev Y)) fun a J=> aI J Y Y Y (by omega) fun a J=> so (wn Y) (O.makeSlice Y Y J Tryz.underlying61 inf3 Y Y (J.ev Y) (J.ev Y) (by omega) (by omega) (by omega) (by omega) G fun b12 a w J G=> ?_))
 rw [show zeros [Value.int .i64 0] (Int.toNat (((32 : Nat) : Int) + 1)) = ints (toB 33 ((x + y) % 256 ^ 0)) from by (rw [Nat.pow_zero, Nat.mod_one, ← toB_0]; exact zeros_ints 33)] at G
 refine av J Y Y fun a J=> s0 <| then_n (hK2 _ _ <| wp_seq_k fun K3 hK3=> wp_region_lit <| av J Y Y fun a J=> s0 <| then_n (hK3 _ _ <| wp_seq_k fun K4 hK4=> wp_seq_k fun K5 hK5=> wp_region_lit <| mv J Y Y fun a J=> sw J Y Y Y (R.len Tryz.underlying61 (J.ev Y)) fun a J=> sw J Y Y Y (R.subI (J.ev Y) (J.ev Y) (by omega)) fun a J=> av J Y Y fun a J=> s0 <| then_n (hK5 _ _ <| wp_block <| wp_loop_N (fun g a w=> ∃ (t : Nat), 32 - t = g ∧ Fr 43 [(0, .slice A 32 c), (1, .slice B 32 d), (5, .slice (some ⟨b12, 0, none⟩) 33 33), (6, .int .i64 ((cyB x y t : Nat) : Int)), (7, .int .i64 (31 - ((t : Nat) : Int)))] a ∧ St w0 [] [[(b12, Cel (ints (toB 33 ((x + y) % 256 ^ t))) 3)]] w ∧ (t ≤ 32)) (32 - 0) ?_ ?_)))
 ·exact ⟨0, Y, J.sub ⟨Y, Y, Y, (by rw [cyB_0]; rfl), Y, trivial⟩, G.sel [0] Y Y, by omega⟩
 rintro KL1 g a w ⟨t, hg1, J, G, ht⟩ hKL1
 have hdx : x / 256 ^ t % 256 < 256 := Nat.mod_lt _ (by decide); have hdy : y / 256 ^ t % 256 < 256 := Nat.mod_lt _ (by decide); have hcy := cyB_le x y t
 refine wp_seq_k fun K6 hK6=> wp_seq_k fun K7 hK7=> wp_region_lit <| mv J Y Y fun a J=> sw J Y Y Y (R.geq (J.ev Y) (J.ev Y)) fun a J=> s0 <| then_n (hK7 _ _ <| cD J Y (fun c1=> ?_) (fun c1=> ?_))
 ·refine wp_skip <| then_n (hK6 _ _ <| wp_seq_k fun K8 hK8=> wp_block <| wp_seq_k fun K9 hK9=> wp_drawS G [(0, 0), (1, 0), (2, 0), (3, 1), (4, 0), (5, 0), (6, 0), (7, 1), (8, 0), (9, 0), (10, 0), (11, 0)] mix (by kernel_rfl) (hP.then.block.then.then.block.then) fun w G=> ?_)
  have hD := G
  refine dm J Y Y Y fun a J=> dm J Y Y Y fun a J=> dv J Y Y Y Y (fun w=> R.indexO Tryz.underlying61 sz3 (J.ev Y) (Rd.ne hA (by rw [length_ints, length_toB]; omega)) (J.ev Y) (by omega) (by omega)) fun a J=> ds J Y Y Y Y hD (fun w hD=> R.loadO one3 (J.ev Y) (hA.old hD) (ints_getT (t := t) (by omega) (by omega))) fun a J=> ?_
  refine dm J Y Y Y fun a J=> dm J Y Y Y fun a J=> dv J Y Y Y Y (fun w=> R.indexO Tryz.underlying61 sz3 (J.ev Y) (Rd.ne hB (by rw [length_ints, length_toB]; omega)) (J.ev Y) (by omega) (by omega)) fun a J=> ds J Y Y Y Y hD (fun w hD=> R.loadO one3 (J.ev Y) (hB.old hD) (ints_getT (t := t) (by omega) (by omega))) fun a J=> ?_
  refine dv J Y Y Y Y (fun w=> R.addI (J.ev Y) (J.ev Y) (by omega)) fun a J=> dm J Y Y Y fun a J=> dv J Y Y Y Y (fun w=> R.addI (J.ev Y) (J.ev Y) (by omega)) fun a J=> da J Y Y Y fun a J=> d0 <| then_n (hK9 _ _ <| wp_seq_k fun K10 hK10=> wp_region_lit <| mv J Y Y fun a J=> mv J Y Y fun a J=> aI J Y Y Y (by omega) fun a J=> mv J Y Y fun a J=> sw J Y Y Y (R.remI (J.ev Y) (J.ev Y) (by omega)) fun a J=> sw J Y Y Y (R.indexS Tryz.underlying61 sz3 (J.ev Y) (J.ev Y) (by omega) (by omega)) fun a J=> so (wn Y) (O.store sz3 (J.ev Y) (J.ev Y) Y Y G .h (ints_setB (k := 33) (t := t) (e := (x + y) / 256 ^ t % 256) (by omega) (Nat.mod_lt _ (by decide)) (by omega) (congrArg (Value.int .i64) (by have := plus_dig x y t; omega))) (by rw [length_ints, length_toB]; omega) fun w G=> ?_))
  rw [setB_take] at G
  refine s0 <| then_n (hK10 _ _ <| wp_region_lit <| mv J Y Y fun a J=> sw J Y Y Y (R.quoI (J.ev Y) (J.ev Y) (by omega)) fun a J=> av J Y Y fun a J=> s0 <| blk_n <| then_n (hK8 _ _ <| wp_region_lit <| mv J Y Y fun a J=> sw J Y Y Y (R.subI (J.ev Y) (J.ev Y) (by omega)) fun a J=> av J Y Y fun a J=> s0 <| then_n (hKL1 (32 - (t + 1)) _ _ ?_ ?_)))
  ·omega
  exact ⟨t + 1, Y, J.sub ⟨Y, Y, Y, (congrArg (fun z => some (Value.int .i64 z)) (by have := plus_cy x y t; omega)), (congrArg (fun z => some (Value.int .i64 z)) (by omega)), trivial⟩, G.sel [0] Y Y, by omega⟩
 obtain rfl : t = 32 := by omega
 refine wp_exit (then_x (then_x (blk_hit <| then_n (hK4 _ _ <| wp_seq_k fun K11 hK11=> wp_region_lit <| mv J Y Y fun a J=> mv J Y Y fun a J=> sw J Y Y Y (R.indexS Tryz.underlying61 sz3 (J.ev Y) (J.ev Y) (by omega) (by omega)) fun a J=> so (wn Y) (O.store sz3 (J.ev Y) (J.ev Y) Y Y G .h (ints_setB (k := 33) (t := 32) (e := (x + y) / 256 ^ 32 % 256) (by omega) (Nat.mod_lt _ (by decide)) (by omega) (by rw [cyB_top hx hy])) (by rw [length_ints, length_toB]; omega) fun w G=> ?_)))))
 rw [setB_take, Nat.mod_eq_of_lt (sum_lt33 hx hy)] at G
 refine s0 <| then_n (hK11 _ _ <| wp_seq_k fun K12 hK12=> wp_region_lit <| mv J Y Y fun a J=> av J Y Y fun a J=> s0 <| then_n (hK12 _ _ <| wp_ret (hR _ _ _ _ _ J (run_results Tryz.results95 (.t J Y (.nil))) ?_)))
 exact ⟨_, _, Y, ⟨_, Y, Y⟩, G.one .h⟩
theorem wholly_calls (A : Option Addr) (n c v : Nat) (w0 : World) (hA : Rd w0 A (ints (toB n v))) (hn : 32 ≤ n ∧ n ≤ 64) (hv : v < 256 ^ n) : Ret Tryz.prog 96 [.slice A n c] w0 [] (fun u s => u = .bool (decide (v < 256 ^ 32)) ∧ s = []) := by
 refine fn_start Tryz.func96 Y Tryz.ntmps96 Y [(0, .slice A n c)] ⟨Y, trivial⟩ ?_
 intro Q a hP J hR hN
 have G := St.start w0
 refine wp_seq_k fun K1 hK1=> wp_region_lit <| av J Y Y fun a J=> s0 <| then_n (hK1 _ _ <| wp_seq_k fun K2 hK2=> wp_seq_k fun K3 hK3=> wp_region_lit <| av J Y Y fun a J=> s0 <| then_n (hK3 _ _ <| wp_block <| wp_loop_N (fun g a w=> ∃ (i : Nat), n - i = g ∧ Fr 16 [(0, .slice A n c), (3, .int .i64 ((i : Nat) : Int))] a ∧ St w0 [] [] w ∧ (i ≤ n - 32) ∧ (v < 256 ^ (n - i))) (n - 0) ?_ ?_))
 ·exact ⟨0, Y, J.sub ⟨Y, Y, trivial⟩, G.sel [] Y Y, by omega, hv⟩
 rintro KL1 g a w ⟨i, hg1, J, G, hi, hvi⟩ hKL1
 have hdd : v / 256 ^ (n - 1 - i) % 256 < 256 := Nat.mod_lt _ (by decide)
 refine wp_seq_k fun K4 hK4=> wp_seq_k fun K5 hK5=> wp_region_lit <| mv J Y Y fun a J=> mv J Y Y fun a J=> sw J Y Y Y (R.len Tryz.underlying61 (J.ev Y)) fun a J=> sw J Y Y Y (R.subI (J.ev Y) (J.ev Y) (by omega)) fun a J=> lS J Y Y Y fun a J=> s0 <| then_n (hK5 _ _ <| cD J Y (fun c1=> ?_) (fun c1=> ?_))
 ·refine wp_skip <| then_n (hK4 _ _ <| wp_seq_k fun K6 hK6=> wp_block <| wp_seq_k fun K7 hK7=> wp_region_lit <| mv J Y Y fun a J=> mv J Y Y fun a J=> sw J Y Y Y (R.indexO Tryz.underlying61 sz3 (J.ev Y) (Rd.ne hA (by rw [length_ints, length_toB]; omega)) (J.ev Y) (by omega) (by omega)) fun a J=> sw J Y Y Y (R.loadO one3 (J.ev Y) (hA.old G) (ints_getB (i := i) (by omega) (by omega))) fun a J=> sw J Y Y Y (R.neq (J.ev Y) (J.ev Y)) fun a J=> s0 <| then_n (hK7 _ _ <| cD J Y (fun c2=> ?_) (fun c2=> ?_)))
  ·refine wp_seq_k fun K8 hK8=> wp_region_lit <| av J Y Y fun a J=> s0 <| then_n (hK8 _ _ <| wp_ret (blk_r (then_r (then_r (blk_r (then_r (hR _ _ _ _ _ J (run_results Tryz.results96 (.t J Y (.nil))) ?_)))))))
   exact ⟨_, [], Y, ⟨by rw [decide_eq_false (who_bad (n := n) (i := i) (by omega) (by omega))]; rfl, Y⟩, G.none⟩
  refine wp_skip <| blk_n <| then_n (hK6 _ _ <| wp_region_lit <| mv J Y Y fun a J=> aI J Y Y Y (by omega) fun a J=> av J Y Y fun a J=> s0 <| then_n (hKL1 (n - (i + 1)) _ _ ?_ ?_))
  ·omega
  exact ⟨i + 1, Y, J.sub ⟨Y, (congrArg (fun z => some (Value.int .i64 z)) (by omega)), trivial⟩, G.sel [] Y Y, by omega, who_next hvi (by omega) (by omega)⟩
 refine wp_exit (then_x (then_x (blk_hit <| then_n (hK2 _ _ <| wp_seq_k fun K9 hK9=> wp_region_lit <| av J Y Y fun a J=> s0 <| then_n (hK9 _ _ <| wp_ret (hR _ _ _ _ _ J (run_results Tryz.results96 (.t J Y (.nil))) ?_))))))
 exact ⟨_, [], Y, ⟨by rw [decide_eq_true (by rwa [show n - i = 32 by omega] at hvi)]; rfl, Y⟩, G.none⟩
theorem cmpB_calls (A B : Option Addr) (n c d x y : Nat) (w0 : World) (hA : Rd w0 A (ints (toB n x))) (hB : Rd w0 B (ints (toB n y))) (hn : n ≤ 64) (hx : x < 256 ^ n) (hy : y < 256 ^ n) : Ret Tryz.prog 97 [.slice A n c, .slice B n d] w0 [] (fun v s => v = .int .i64 (cmpV x y) ∧ s = []) := by
 refine fn_start Tryz.func97 Y Tryz.ntmps97 Y [(0, .slice A n c), (1, .slice B n d)] ⟨Y, Y, trivial⟩ ?_
 intro Q a hP J hR hN
 have G := St.start w0
 refine wp_seq_k fun K1 hK1=> wp_region_lit <| av J Y Y fun a J=> s0 <| then_n (hK1 _ _ <| wp_seq_k fun K2 hK2=> wp_seq_k fun K3 hK3=> wp_region_lit <| av J Y Y fun a J=> s0 <| then_n (hK3 _ _ <| wp_block <| wp_loop_N (fun g a w=> ∃ (i : Nat), n - i = g ∧ Fr 30 [(0, .slice A n c), (1, .slice B n d), (5, .int .i64 ((i : Nat) : Int))] a ∧ St w0 [] [] w ∧ (i ≤ n) ∧ (x / 256 ^ (n - i) = y / 256 ^ (n - i))) (n - 0) ?_ ?_))
 ·exact ⟨0, Y, J.sub ⟨Y, Y, Y, trivial⟩, G.sel [] Y Y, by omega, (by rw [Nat.sub_zero, Nat.div_eq_of_lt hx, Nat.div_eq_of_lt hy])⟩
 rintro KL1 g a w ⟨i, hg1, J, G, hi, hcp⟩ hKL1
 have hcp2 : i < n → x / 256 ^ (n - 1 - i + 1) = y / 256 ^ (n - 1 - i + 1) := fun h => by rw [show n - 1 - i + 1 = n - i by omega]; exact hcp
 refine wp_seq_k fun K4 hK4=> wp_seq_k fun K5 hK5=> wp_region_lit <| mv J Y Y fun a J=> mv J Y Y fun a J=> sw J Y Y Y (R.len Tryz.underlying61 (J.ev Y)) fun a J=> lS J Y Y Y fun a J=> s0 <| then_n (hK5 _ _ <| cD J Y (fun c1=> ?_) (fun c1=> ?_))
 ·refine wp_skip <| then_n (hK4 _ _ <| wp_seq_k fun K6 hK6=> wp_block <| wp_seq_k fun K7 hK7=> wp_drawS G [(0, 0), (1, 0), (2, 0), (3, 1), (4, 0), (5, 0), (6, 0), (7, 1), (8, 0)] mix (by kernel_rfl) (hP.then.block.then.then.block.then) fun w G=> ?_)
  have hD := G
  refine dm J Y Y Y fun a J=> dm J Y Y Y fun a J=> dv J Y Y Y Y (fun w=> R.indexO Tryz.underlying61 sz3 (J.ev Y) (Rd.ne hA (by rw [length_ints, length_toB]; omega)) (J.ev Y) (by omega) (by omega)) fun a J=> ds J Y Y Y Y hD (fun w hD=> R.loadO one3 (J.ev Y) (hA.old hD) (ints_getB (i := i) (by omega) (by omega))) fun a J=> ?_
  refine dm J Y Y Y fun a J=> dm J Y Y Y fun a J=> dv J Y Y Y Y (fun w=> R.indexO Tryz.underlying61 sz3 (J.ev Y) (Rd.ne hB (by rw [length_ints, length_toB]; omega)) (J.ev Y) (by omega) (by omega)) fun a J=> ds J Y Y Y Y hD (fun w hD=> R.loadO one3 (J.ev Y) (hB.old hD) (ints_getB (i := i) (by omega) (by omega))) fun a J=> ?_
  refine dv J Y Y Y Y (fun w=> R.neq (J.ev Y) (J.ev Y)) fun a J=> d0 <| then_n (hK7 _ _ <| cD J Y (fun c2=> ?_) (fun c2=> ?_))
  ·refine wp_seq_k fun K8 hK8=> wp_seq_k fun K9 hK9=> wp_drawS G [(0, 0), (1, 0), (2, 0), (3, 1), (4, 0), (5, 0), (6, 0), (7, 1), (8, 0)] mix (by kernel_rfl) (hP.then.block.then.then.block.then.then) fun w G=> ?_
   have hD := G
   refine dm J Y Y Y fun a J=> dm J Y Y Y fun a J=> dv J Y Y Y Y (fun w=> R.indexO Tryz.underlying61 sz3 (J.ev Y) (Rd.ne hA (by rw [length_ints, length_toB]; omega)) (J.ev Y) (by omega) (by omega)) fun a J=> ds J Y Y Y Y hD (fun w hD=> R.loadO one3 (J.ev Y) (hA.old hD) (ints_getB (i := i) (by omega) (by omega))) fun a J=> ?_
   refine dm J Y Y Y fun a J=> dm J Y Y Y fun a J=> dv J Y Y Y Y (fun w=> R.indexO Tryz.underlying61 sz3 (J.ev Y) (Rd.ne hB (by rw [length_ints, length_toB]; omega)) (J.ev Y) (by omega) (by omega)) fun a J=> ds J Y Y Y Y hD (fun w hD=> R.loadO one3 (J.ev Y) (hB.old hD) (ints_getB (i := i) (by omega) (by omega))) fun a J=> ?_
   refine dv J Y Y Y Y (fun w=> R.lss (J.ev Y) (J.ev Y)) fun a J=> d0 <| then_n (hK9 _ _ <| cD J Y (fun c3=> ?_) (fun c3=> ?_))
   ·refine wp_seq_k fun K10 hK10=> wp_region_lit <| av J Y Y fun a J=> s0 <| then_n (hK10 _ _ <| wp_ret (then_r (blk_r (then_r (then_r (blk_r (then_r (hR _ _ _ _ _ J (run_results Tryz.results97 (.t J Y (.nil))) ?_))))))))
    exact ⟨_, [], Y, ⟨by rw [cmpV_lt (cmpB_lt (k := n - 1 - i) (hcp2 (by omega)) (by omega))]; rfl, Y⟩, G.none⟩
   refine wp_skip <| then_n (hK8 _ _ <| wp_seq_k fun K11 hK11=> wp_region_lit <| av J Y Y fun a J=> s0 <| then_n (hK11 _ _ <| wp_ret (blk_r (then_r (then_r (blk_r (then_r (hR _ _ _ _ _ J (run_results Tryz.results97 (.t J Y (.nil))) ?_))))))))
   exact ⟨_, [], Y, ⟨by rw [cmpV_gt (cmpB_lt (k := n - 1 - i) (hcp2 (by omega)).symm (by omega))]; rfl, Y⟩, G.none⟩
  refine wp_skip <| blk_n <| then_n (hK6 _ _ <| wp_region_lit <| mv J Y Y fun a J=> aI J Y Y Y (by omega) fun a J=> av J Y Y fun a J=> s0 <| then_n (hKL1 (n - (i + 1)) _ _ ?_ ?_))
  ·omega
  exact ⟨i + 1, Y, J.sub ⟨Y, Y, (congrArg (fun z => some (Value.int .i64 z)) (by omega)), trivial⟩, G.sel [] Y Y, by omega, (by have h9 := cmpB_same (x := x) (y := y) (k := n - 1 - i) (hcp2 (by omega)) (by omega); rwa [show n - 1 - i = n - (i + 1) by omega] at h9)⟩
 refine wp_exit (then_x (then_x (blk_hit <| then_n (hK2 _ _ <| wp_seq_k fun K12 hK12=> wp_region_lit <| av J Y Y fun a J=> s0 <| then_n (hK12 _ _ <| wp_ret (hR _ _ _ _ _ J (run_results Tryz.results97 (.t J Y (.nil))) ?_))))))
 exact ⟨_, [], Y, ⟨by rw [cmpV_eq (by rw [show n - i = 0 by omega] at hcp; simpa using hcp)]; rfl, Y⟩, G.none⟩
theorem lessB_calls (A B : Option Addr) (n c d x y : Nat) (w0 : World) (hA : Rd w0 A (ints (toB n x))) (hB : Rd w0 B (ints (toB n y))) (hn : n ≤ 64) (hyx : y ≤ x) : Ret Tryz.prog 98 [.slice A n c, .slice B n d] w0 [] (RetB n (x - y)) := by
 refine fn_start Tryz.func98 Y Tryz.ntmps98 Y [(0, .slice A n c), (1, .slice B n d)] ⟨Y, Y, trivial⟩ ?_
 intro Q a hP J hR hN
 have G := St.start w0
 refine wp_seq_k fun K1 hK1=> wp_region_lit <| av J Y Y fun a J=> s0 <| then_n (hK1 _ _ <| wp_seq_k fun K2 hK2=> wp_region_lit <| mv J Y Y fun a J=> sw J Y Y Y (R.len Tryz.underlying61 (J.ev Y)) fun a J=> so (wn Y) (O.makeSlice Y Y J Tryz.underlying61 inf3 Y Y (J.ev Y) (J.ev Y) (by omega) (by omega) (by omega) (by omega) G fun b11 a w J G=> ?_))
 rw [show zeros [Value.int .i64 0] (Int.toNat ((n : Nat) : Int)) = ints (toB n ((x - y) % 256 ^ 0)) from by (rw [Nat.pow_zero, Nat.mod_one, ← toB_0]; exact zeros_ints n)] at G
 refine av J Y Y fun a J=> s0 <| then_n (hK2 _ _ <| wp_seq_k fun K3 hK3=> wp_region_lit <| av J Y Y fun a J=> s0 <| then_n (hK3 _ _ <| wp_seq_k fun K4 hK4=> wp_seq_k fun K5 hK5=> wp_region_lit <| mv J Y Y fun a J=> sw J Y Y Y (R.len Tryz.underlying61 (J.ev Y)) fun a J=> sw J Y Y Y (R.subI (J.ev Y) (J.ev Y) (by omega)) fun a J=> av J Y Y fun a J=> s0 <| then_n (hK5 _ _ <| wp_block <| wp_loop_N (fun g a w=> ∃ (t : Nat), n - t = g ∧ Fr 39 [(0, .slice A n c), (1, .slice B n d), (5, .slice (some ⟨b11, 0, none⟩) n n), (6, .int .i64 ((bwB x y t : Nat) : Int)), (7, .int .i64 (((n : Nat) : Int) - 1 - ((t : Nat) : Int)))] a ∧ St w0 [] [[(b11, Cel (ints (toB n ((x - y) % 256 ^ t))) 3)]] w ∧ (t ≤ n)) (n - 0) ?_ ?_)))
 ·exact ⟨0, Y, J.sub ⟨Y, Y, Y, (by rw [bwB_0]; rfl), (congrArg (fun z => some (Value.int .i64 z)) (by omega)), trivial⟩, G.sel [0] Y Y, by omega⟩
 rintro KL1 g a w ⟨t, hg1, J, G, ht⟩ hKL1
 have hdx : x / 256 ^ t % 256 < 256 := Nat.mod_lt _ (by decide); have hdy : y / 256 ^ t % 256 < 256 := Nat.mod_lt _ (by decide); have hbw := bwB_le x y t
 refine wp_seq_k fun K6 hK6=> wp_seq_k fun K7 hK7=> wp_region_lit <| mv J Y Y fun a J=> sw J Y Y Y (R.geq (J.ev Y) (J.ev Y)) fun a J=> s0 <| then_n (hK7 _ _ <| cD J Y (fun c1=> ?_) (fun c1=> ?_))
 ·refine wp_skip <| then_n (hK6 _ _ <| wp_seq_k fun K8 hK8=> wp_block <| wp_seq_k fun K9 hK9=> wp_drawS G [(0, 0), (1, 0), (2, 0), (3, 1), (4, 0), (5, 0), (6, 0), (7, 1), (8, 0), (9, 0), (10, 0), (11, 0)] mix (by kernel_rfl) (hP.then.block.then.then.block.then) fun w G=> ?_)
  have hD := G
  refine dm J Y Y Y fun a J=> dm J Y Y Y fun a J=> dv J Y Y Y Y (fun w=> R.indexO Tryz.underlying61 sz3 (J.ev Y) (Rd.ne hA (by rw [length_ints, length_toB]; omega)) (J.ev Y) (by omega) (by omega)) fun a J=> ds J Y Y Y Y hD (fun w hD=> R.loadO one3 (J.ev Y) (hA.old hD) (ints_getT (t := t) (by omega) (by omega))) fun a J=> ?_
  refine dm J Y Y Y fun a J=> dm J Y Y Y fun a J=> dv J Y Y Y Y (fun w=> R.indexO Tryz.underlying61 sz3 (J.ev Y) (Rd.ne hB (by rw [length_ints, length_toB]; omega)) (J.ev Y) (by omega) (by omega)) fun a J=> ds J Y Y Y Y hD (fun w hD=> R.loadO one3 (J.ev Y) (hB.old hD) (ints_getT (t := t) (by omega) (by omega))) fun a J=> ?_
  refine dv J Y Y Y Y (fun w=> R.subI (J.ev Y) (J.ev Y) (by omega)) fun a J=> dm J Y Y Y fun a J=> dv J Y Y Y Y (fun w=> R.subI (J.ev Y) (J.ev Y) (by omega)) fun a J=> da J Y Y Y fun a J=> d0 <| then_n (hK9 _ _ <| wp_seq_k fun K10 hK10=> wp_region_lit <| av J Y Y fun a J=> s0 <| then_n (hK10 _ _ <| wp_seq_k fun K11 hK11=> ?_))
  have hK11' : ∀ a w, (Fr 39 [(0, .slice A n c), (1, .slice B n d), (5, .slice (some ⟨b11, 0, none⟩) n n), (6, .int .i64 ((bwB x y (t + 1) : Nat) : Int)), (7, .int .i64 (((n : Nat) : Int) - 1 - ((t : Nat) : Int))), (8, .int .i64 (((x - y) / 256 ^ t % 256 : Nat) : Int))] a ∧ St w0 [] [[(b11, Cel (ints (toB n ((x - y) % 256 ^ t))) 3)]] w) → K11 a w := by
   rintro a w ⟨J, G⟩
   refine hK11 _ _ ?_
   refine wp_region_lit <| mv J Y Y fun a J=> mv J Y Y fun a J=> mv J Y Y fun a J=> sw J Y Y Y (R.indexS Tryz.underlying61 sz3 (J.ev Y) (J.ev Y) (by omega) (by omega)) fun a J=> so (wn Y) (O.store sz3 (J.ev Y) (J.ev Y) Y Y G .h (ints_setB (k := n) (t := t) (e := (x - y) / 256 ^ t % 256) (by omega) (Nat.mod_lt _ (by decide)) (by omega) Y) (by rw [length_ints, length_toB]; omega) fun w G=> ?_)
   rw [setB_take] at G
   refine s0 <| blk_n <| then_n (hK8 _ _ <| wp_region_lit <| mv J Y Y fun a J=> sw J Y Y Y (R.subI (J.ev Y) (J.ev Y) (by omega)) fun a J=> av J Y Y fun a J=> s0 <| then_n (hKL1 (n - (t + 1)) _ _ ?_ ?_))
   ·omega
   exact ⟨t + 1, Y, J.sub ⟨Y, Y, Y, Y, (congrArg (fun z => some (Value.int .i64 z)) (by omega)), trivial⟩, G.sel [0] Y Y, by omega⟩
  refine wp_seq_k fun K12 hK12=> wp_region_lit <| mv J Y Y fun a J=> lS J Y Y Y fun a J=> s0 <| then_n (hK12 _ _ <| cD J Y (fun c2=> ?_) (fun c2=> ?_))
  ·refine wp_seq_k fun K13 hK13=> wp_region_lit <| mv J Y Y fun a J=> aI J Y Y Y (by omega) fun a J=> av J Y Y fun a J=> s0 <| then_n (hK13 _ _ <| wp_region_lit <| av J Y Y fun a J=> s0 ?_)
   exact then_n (hK11' _ _ ⟨J.sub ⟨Y, Y, Y, (by rw [bw_1 (by omega)]; rfl), Y, (congrArg (fun z => some (Value.int .i64 z)) (by have := less_dig x y t hyx; have := bw_1 (x := x) (y := y) (t := t) (by omega); omega)), trivial⟩, G.sel [0] Y Y⟩)
  refine wp_skip ?_
  exact then_n (hK11' _ _ ⟨J.sub ⟨Y, Y, Y, (by rw [bw_n (by omega)]; rfl), Y, (congrArg (fun z => some (Value.int .i64 z)) (by have := less_dig x y t hyx; have := bw_n (x := x) (y := y) (t := t) (by omega); omega)), trivial⟩, G.sel [0] Y Y⟩)
 obtain rfl : t = n := by omega
 rw [toB_pw] at G
 refine wp_exit (then_x (then_x (blk_hit <| then_n (hK4 _ _ <| wp_seq_k fun K14 hK14=> wp_region_lit <| mv J Y Y fun a J=> av J Y Y fun a J=> s0 <| then_n (hK14 _ _ <| wp_ret (hR _ _ _ _ _ J (run_results Tryz.results98 (.t J Y (.nil))) ?_))))))
 exact ⟨_, _, Y, ⟨_, Y, Y⟩, G.one .h⟩
end Go.Proofs.YtlapmbkfmbkdoaaGreatDoor
end
section
namespace Go.Proofs.YtlapmbkfmbkdoaaGreatDoor
open Go Go.Fw Go.RowKit
attribute [local irreducible] Go.Oper.wp Go.Code.wp Go.wpList Go.Fw.WL Go.Calls
theorem rd_tail {w : World} {b n j v : Nat} (h : Rd w (some ⟨b, 0, none⟩) (ints (toB (n + j) v))) : Rd w (some ⟨b, j, none⟩) (ints (toB n v)) := by
  intro i u hu
  have e : (ints (toB (n + j) v))[j + i]? = some u := by
    have hd : toB n v = (toB (n + j) v).drop j := by rw [toB_drop j (by omega), Nat.add_sub_cancel]
    rw [hd] at hu
    unfold ints at hu ⊢
    rw [List.getElem?_map, List.getElem?_drop] at hu
    rw [List.getElem?_map]; exact hu
  obtain ⟨a, ha, hc⟩ := h (j + i) u e
  refine ⟨_, rfl, ?_⟩
  simp only [Option.some.injEq] at ha
  subst ha
  by_cases hi : i = 0 <;> by_cases hj : j = 0 <;> simp_all [Addr.add]
theorem mixB_get {P R k i off : Nat} (hk : k ≤ i) (h : i < 33) (ho : off = i) : (ints (mixL (toB 33 P) (toB 33 R) k))[off]? = some (.int .i64 ((R / 256 ^ (32 - i) % 256 : Nat) : Int)) := by
  rw [mixL_get (length_toB 33 P) (length_toB 33 R) h hk ho, toB_getD h]
theorem mixB_set {P R b k d off : Nat} {v : Value} (hP : P = 2 * R + b) (hb : b ≤ 1) (h : k < 33) (hd : d = R / 256 ^ (32 - k) % 256 % 128 * 2 + (if 0 < 32 - k then R / 256 ^ (32 - k - 1) % 256 / 128 else b)) (ho : off = k) (hv : v = .int .i64 ((d : Nat) : Int)) : (ints (mixL (toB 33 P) (toB 33 R) k)).set off v = ints (mixL (toB 33 P) (toB 33 R) (k + 1)) := by
  refine mixL_set (length_toB 33 P) (length_toB 33 R) h ?_ ho hv
  rw [toB_getD h, hd, hP, ← twice_dig hb]
theorem up_T {R b k : Nat} (h : k < 32) : R / 256 ^ (32 - (k + 1)) % 256 / 128 = (if 0 < 32 - k then R / 256 ^ (32 - k - 1) % 256 / 128 else b) := by
  rw [if_pos (by omega), show 32 - (k + 1) = 32 - k - 1 by omega]
theorem up_F {R b k : Nat} (h : ¬ k < 32) : b = (if 0 < 32 - k then R / 256 ^ (32 - k - 1) % 256 / 128 else b) := by rw [if_neg (by omega)]
theorem mixB_33 {P R : Nat} : mixL (toB 33 P) (toB 33 R) 33 = toB 33 P := mixL_all (length_toB _ _) (length_toB _ _)
theorem mixB_0 {P R : Nat} : mixL (toB 33 P) (toB 33 R) 0 = toB 33 R := mixL_0 _ _
theorem rem_T {x y i : Nat} (hy : 0 < y) (h : i < 256) (hc : y ≤ 2 * remT x y i + x / 2 ^ (255 - i) % 2) : remT x y (i + 1) = 2 * remT x y i + x / 2 ^ (255 - i) % 2 - y := by rw [remT_next hy h, if_pos hc]
theorem rem_F {x y i : Nat} (hy : 0 < y) (h : i < 256) (hc : ¬ y ≤ 2 * remT x y i + x / 2 ^ (255 - i) % 2) : remT x y (i + 1) = 2 * remT x y i + x / 2 ^ (255 - i) % 2 := by rw [remT_next hy h, if_neg hc]
theorem quo_T {x y i : Nat} (hy : 0 < y) (h : i < 256) (hc : y ≤ 2 * remT x y i + x / 2 ^ (255 - i) % 2) : quoT x y (i + 1) = quoT x y i + 2 ^ (255 - i) := by rw [quoT_next hy h, if_pos hc]
theorem quo_F {x y i : Nat} (hy : 0 < y) (h : i < 256) (hc : ¬ y ≤ 2 * remT x y i + x / 2 ^ (255 - i) % 2) : quoT x y (i + 1) = quoT x y i := by rw [quoT_next hy h, if_neg hc, Nat.add_zero]
theorem remT_lt {x y i : Nat} (hy : 0 < y) : remT x y i < y := Nat.mod_lt _ hy
theorem own_z1 (b : Nat) : OwnS [(b, Cel (ints [0]) 3)] (some ⟨b, 0, none⟩) 1 1 (ints [0]) 3 1 := OwnS.mk (cells := ints [0]) (rest := []) rfl (by decide) rfl (by decide)
theorem toB_33 {y : Nat} (h : y < 256 ^ 32) : ints [0] ++ ints (toB 32 y) = ints (toB 33 y) := by
  show _ = ints (toB (32 + 1) y)
  rw [toB_succ 32 y, Nat.div_eq_of_lt h]; rfl
theorem lt_33 {y : Nat} (h : y < 256 ^ 32) : y < 256 ^ 33 := Nat.lt_of_lt_of_le h (Nat.pow_le_pow_right (by decide) (by decide))
theorem two_33 {r y b : Nat} (hr : r < y) (hy : y < 256 ^ 32) (hb : b ≤ 1) : 2 * r + b < 256 ^ 33 := by
  have h33 : (256 : Nat) ^ 33 = 256 * 256 ^ 32 := by rw [show (33 : Nat) = 32 + 1 from rfl, Nat.pow_succ, Nat.mul_comm]
  omega
theorem p256_32 : (256 : Nat) ^ 32 = 2 ^ 256 := by decide
def RetQ (x y : Nat) (v : Value) (s : Seg) : Prop := ∃ bq br, v = .tuple #[.slice (some ⟨bq, 0, none⟩) 32 32, .slice (some ⟨br, 1, none⟩) 32 32] ∧ s = [(bq, Cel (ints (toB 32 (x / y))) 3)] ++ [(br, Cel (ints (toB 33 (x % y))) 3)]
set_option maxHeartbeats 1000000 in
theorem timesB_calls (A B : Option Addr) (c d x y : Nat) (w0 : World) (hA : Rd w0 A (ints (toB 32 x))) (hB : Rd w0 B (ints (toB 32 y))) (hx : x < 256 ^ 32) (hy : y < 256 ^ 32) : Ret Tryz.prog 99 [.slice A 32 c, .slice B 32 d] w0 [] (RetB 64 (x * y)) := by
 refine fn_start Tryz.func99 Y Tryz.ntmps99 Y [(0, .slice A 32 c), (1, .slice B 32 d)] ⟨Y, Y, trivial⟩ ?_
 intro Q a hP J hR hN
 have G := St.start w0
 refine wp_seq_k fun K1 hK1=> wp_region_lit <| av J Y Y fun a J=> s0 <| then_n (hK1 _ _ <| wp_seq_k fun K2 hK2=> wp_region_lit <| so (wn Y) (O.makeSlice Y Y J Tryz.underlying61 inf3 Y Y (J.ev Y) (J.ev Y) (by omega) (by omega) (by omega) (by omega) G fun b10 a w J G=> ?_))
 rw [show zeros [Value.int .i64 0] (Int.toNat 64) = ints (toB 64 (x % 256 ^ 0 * y)) from by (rw [Nat.pow_zero, Nat.mod_one, Nat.zero_mul, ← toB_0]; exact zeros_ints 64)] at G
 refine av J Y Y fun a J=> s0 <| then_n (hK2 _ _ <| wp_seq_k fun K3 hK3=> wp_seq_k fun K4 hK4=> wp_region_lit <| av J Y Y fun a J=> s0 <| then_n (hK4 _ _ <| wp_block <| wp_loop_N (fun g a w=> ∃ (t : Nat), 32 - t = g ∧ Fr 56 [(0, .slice A 32 c), (1, .slice B 32 d), (5, .slice (some ⟨b10, 0, none⟩) 64 64), (6, .int .i64 (31 - ((t : Nat) : Int)))] a ∧ St w0 [] [[(b10, Cel (ints (toB 64 (x % 256 ^ t * y))) 3)]] w ∧ (t ≤ 32)) (32 - 0) ?_ ?_))
 ·exact ⟨0, Y, J.sub ⟨Y, Y, Y, Y, trivial⟩, G.sel [0] Y Y, by omega⟩
 rintro KL1 g a w ⟨t, hg1, J, G, ht⟩ hKL1
 refine wp_seq_k fun K5 hK5=> wp_seq_k fun K6 hK6=> wp_region_lit <| mv J Y Y fun a J=> sw J Y Y Y (R.geq (J.ev Y) (J.ev Y)) fun a J=> s0 <| then_n (hK6 _ _ <| cD J Y (fun c1=> ?_) (fun c1=> ?_))
 ·refine wp_skip <| then_n (hK5 _ _ <| wp_seq_k fun K7 hK7=> wp_block <| wp_seq_k fun K8 hK8=> wp_region_lit <| av J Y Y fun a J=> s0 <| then_n (hK8 _ _ <| wp_seq_k fun K9 hK9=> wp_seq_k fun K10 hK10=> wp_region_lit <| av J Y Y fun a J=> s0 <| then_n (hK10 _ _ <| wp_block <| wp_loop_N (fun g a w=> ∃ (u : Nat) (V : Nat) (cc : Nat), 32 - u = g ∧ Fr 56 [(0, .slice A 32 c), (1, .slice B 32 d), (5, .slice (some ⟨b10, 0, none⟩) 64 64), (6, .int .i64 (31 - ((t : Nat) : Int))), (7, .int .i64 ((cc : Nat) : Int)), (8, .int .i64 (31 - ((u : Nat) : Int)))] a ∧ St w0 [] [[(b10, Cel (ints (toB 64 (V))) 3)]] w ∧ (u ≤ 32) ∧ (V + cc * 256 ^ (t + u) = x % 256 ^ t * y + x / 256 ^ t % 256 * (y % 256 ^ u) * 256 ^ t) ∧ (cc < 256) ∧ (V < 256 ^ (t + 32))) (32 - 0) ?_ ?_)))
  ·exact ⟨0, x % 256 ^ t * y, 0, Y, J.sub ⟨Y, Y, Y, Y, Y, Y, trivial⟩, G.sel [0] Y Y, by omega, (by rw [Nat.pow_zero, Nat.mod_one]; simp), by decide, rows_lt hy⟩
  rintro KL2 g a w ⟨u, V, cc, hg2, J, G, hu, hv, hcc, hV⟩ hKL2
  have hdx : x / 256 ^ t % 256 < 256 := Nat.mod_lt _ (by decide); have hdy : y / 256 ^ u % 256 < 256 := Nat.mod_lt _ (by decide); have hdv : V / 256 ^ (t + u) % 256 < 256 := Nat.mod_lt _ (by decide); have hmu : x / 256 ^ t % 256 * (y / 256 ^ u % 256) ≤ 255 * 255 := Nat.mul_le_mul (by omega) (by omega)
  refine wp_seq_k fun K11 hK11=> wp_seq_k fun K12 hK12=> wp_region_lit <| mv J Y Y fun a J=> sw J Y Y Y (R.geq (J.ev Y) (J.ev Y)) fun a J=> s0 <| then_n (hK12 _ _ <| cD J Y (fun c2=> ?_) (fun c2=> ?_))
  ·refine wp_skip <| then_n (hK11 _ _ <| wp_seq_k fun K13 hK13=> wp_block <| wp_seq_k fun K14 hK14=> wp_drawS G [(0, 0), (1, 0), (2, 0), (3, 0), (4, 0), (5, 0), (6, 1), (7, 0), (8, 0), (9, 0), (10, 1), (11, 0), (12, 0), (13, 0), (14, 1), (15, 0), (16, 0), (17, 0), (18, 0), (19, 0)] mix (by kernel_rfl) (hP.then.block.then.then.block.then.block.then.then.block.then) fun w G=> ?_)
   have hD := G
   refine dm J Y Y Y fun a J=> dm J Y Y Y fun a J=> dm J Y Y Y fun a J=> dv J Y Y Y Y (fun w=> R.addI (J.ev Y) (J.ev Y) (by omega)) fun a J=> dv J Y Y Y Y (fun w=> R.addI (J.ev Y) (J.ev Y) (by omega)) fun a J=> dv J Y Y Y Y (fun w=> R.indexS Tryz.underlying61 sz3 (J.ev Y) (J.ev Y) (by omega) (by omega)) fun a J=> ds J Y Y Y Y hD (fun w hD=> R.load one3 (J.ev Y) hD .h (ints_getT (t := t + u) (by omega) (by omega))) fun a J=> ?_
   refine dm J Y Y Y fun a J=> dm J Y Y Y fun a J=> dv J Y Y Y Y (fun w=> R.indexO Tryz.underlying61 sz3 (J.ev Y) (Rd.ne hA (by rw [length_ints, length_toB]; omega)) (J.ev Y) (by omega) (by omega)) fun a J=> ds J Y Y Y Y hD (fun w hD=> R.loadO one3 (J.ev Y) (hA.old hD) (ints_getT (t := t) (by omega) (by omega))) fun a J=> ?_
   refine dm J Y Y Y fun a J=> dm J Y Y Y fun a J=> dv J Y Y Y Y (fun w=> R.indexO Tryz.underlying61 sz3 (J.ev Y) (Rd.ne hB (by rw [length_ints, length_toB]; omega)) (J.ev Y) (by omega) (by omega)) fun a J=> ds J Y Y Y Y hD (fun w hD=> R.loadO one3 (J.ev Y) (hB.old hD) (ints_getT (t := u) (by omega) (by omega))) fun a J=> ?_
   refine dv J Y Y Y Y (fun w=> R.mulN (p := x / 256 ^ t % 256) (q := y / 256 ^ u % 256) (J.ev Y) (J.ev Y) (by omega)) fun a J=> dv J Y Y Y Y (fun w=> R.addI (J.ev Y) (J.ev Y) (by omega)) fun a J=> dm J Y Y Y fun a J=> dv J Y Y Y Y (fun w=> R.addI (J.ev Y) (J.ev Y) (by omega)) fun a J=> da J Y Y Y fun a J=> d0 <| then_n (hK14 _ _ <| wp_seq_k fun K15 hK15=> wp_region_lit <| mv J Y Y fun a J=> mv J Y Y fun a J=> mv J Y Y fun a J=> aI J Y Y Y (by omega) fun a J=> aI J Y Y Y (by omega) fun a J=> mv J Y Y fun a J=> sw J Y Y Y (R.remI (J.ev Y) (J.ev Y) (by omega)) fun a J=> sw J Y Y Y (R.indexS Tryz.underlying61 sz3 (J.ev Y) (J.ev Y) (by omega) (by omega)) fun a J=> so (wn Y) (O.store sz3 (J.ev Y) (J.ev Y) Y Y G .h (ints_setB (k := 64) (t := t + u) (e := (V / 256 ^ (t + u) % 256 + x / 256 ^ t % 256 * (y / 256 ^ u % 256) + cc) % 256) (by omega) (Nat.mod_lt _ (by decide)) (by omega) (congrArg (Value.int .i64) (by omega))) (by rw [length_ints, length_toB]; omega) fun w G=> ?_))
   refine s0 <| then_n (hK15 _ _ <| wp_region_lit <| mv J Y Y fun a J=> sw J Y Y Y (R.quoI (J.ev Y) (J.ev Y) (by omega)) fun a J=> av J Y Y fun a J=> s0 <| blk_n <| then_n (hK13 _ _ <| wp_region_lit <| mv J Y Y fun a J=> sw J Y Y Y (R.subI (J.ev Y) (J.ev Y) (by omega)) fun a J=> av J Y Y fun a J=> s0 <| then_n (hKL2 (32 - (u + 1)) _ _ ?_ ?_)))
   ·omega
   exact ⟨u + 1, setB V (t + u) ((V / 256 ^ (t + u) % 256 + x / 256 ^ t % 256 * (y / 256 ^ u % 256) + cc) % 256), (V / 256 ^ (t + u) % 256 + x / 256 ^ t % 256 * (y / 256 ^ u % 256) + cc) / 256, Y, J.sub ⟨Y, Y, Y, Y, (congrArg (fun z => some (Value.int .i64 z)) (by omega)), (congrArg (fun z => some (Value.int .i64 z)) (by omega)), trivial⟩, G.sel [0] Y Y, by omega, row_step hv, row_carry hdv hdx hdy hcc, setB_lt hV (by omega) (Nat.mod_lt _ (by decide))⟩
  obtain rfl : u = 32 := by omega
  have hre := row_end hy hv hV hcc
  refine wp_exit (then_x (then_x (blk_hit <| then_n (hK9 _ _ <| wp_region_lit <| mv J Y Y fun a J=> mv J Y Y fun a J=> sw J Y Y Y (R.indexS Tryz.underlying61 sz3 (J.ev Y) (J.ev Y) (by omega) (by omega)) fun a J=> sw J Y Y Y (R.load one3 (J.ev Y) G .h (ints_getT (t := t + 32) (by omega) (by omega))) fun a J=> mv J Y Y fun a J=> aI J Y Y Y (by omega) fun a J=> sw J Y Y Y (R.indexS Tryz.underlying61 sz3 (J.ev Y) (J.ev Y) (by omega) (by omega)) fun a J=> so (wn Y) (O.store sz3 (J.ev Y) (J.ev Y) Y Y G .h (ints_setB (k := 64) (t := t + 32) (e := cc) (by omega) hcc (by omega) (congrArg (Value.int .i64) (by have := hre.1; omega))) (by rw [length_ints, length_toB]; omega) fun w G=> ?_)))))
  rw [hre.2, rows_next] at G
  refine s0 <| blk_n <| then_n (hK7 _ _ <| wp_region_lit <| mv J Y Y fun a J=> sw J Y Y Y (R.subI (J.ev Y) (J.ev Y) (by omega)) fun a J=> av J Y Y fun a J=> s0 <| then_n (hKL1 (32 - (t + 1)) _ _ ?_ ?_))
  ·omega
  exact ⟨t + 1, Y, J.sub ⟨Y, Y, Y, (congrArg (fun z => some (Value.int .i64 z)) (by omega)), trivial⟩, G.sel [0] Y Y, by omega⟩
 obtain rfl : t = 32 := by omega
 rw [Nat.mod_eq_of_lt hx] at G
 refine wp_exit (then_x (then_x (blk_hit <| then_n (hK3 _ _ <| wp_seq_k fun K16 hK16=> wp_region_lit <| mv J Y Y fun a J=> av J Y Y fun a J=> s0 <| then_n (hK16 _ _ <| wp_ret (hR _ _ _ _ _ J (run_results Tryz.results99 (.t J Y (.nil))) ?_))))))
 exact ⟨_, _, Y, ⟨_, Y, Y⟩, G.one .h⟩
set_option maxHeartbeats 2000000 in
theorem parts_calls (A B : Option Addr) (c d x y : Nat) (w0 : World) (hA : Rd w0 A (ints (toB 32 x))) (hB : Rd w0 B (ints (toB 32 y))) (hx : x < 256 ^ 32) (hy : y < 256 ^ 32) (hy0 : 0 < y) : Ret Tryz.prog 62 [.slice A 32 c, .slice B 32 d] w0 [] (RetQ x y) := by
 refine fn_start Tryz.func62 Y Tryz.ntmps62 Y [(0, .slice A 32 c), (1, .slice B 32 d)] ⟨Y, Y, trivial⟩ ?_
 intro Q a hP J hR hN
 have G := St.start w0
 refine wp_seq_k fun K1 hK1=> wp_region_lit <| av J Y Y fun a J=> av J Y Y fun a J=> s0 <| then_n (hK1 _ _ <| wp_seq_k fun K2 hK2=> wp_region_lit <| so (wn Y) (O.makeSlice Y Y J Tryz.underlying61 inf3 Y Y (J.ev Y) (J.ev Y) (by omega) (by omega) (by omega) (by omega) G fun b13 a w J G=> ?_))
 rw [show zeros [Value.int .i64 0] (Int.toNat 32) = ints (toB 32 (quoT x y 0)) from by (rw [quoT_0 (p256_32 ▸ hx), ← toB_0]; exact zeros_ints 32)] at G
 refine av J Y Y fun a J=> s0 <| then_n (hK2 _ _ <| wp_seq_k fun K3 hK3=> wp_region_lit <| so (wn Y) (O.makeSlice Y Y J Tryz.underlying61 inf3 Y Y (J.ev Y) (J.ev Y) (by omega) (by omega) (by omega) (by omega) G fun b14 a w J G=> ?_))
 rw [show zeros [Value.int .i64 0] (Int.toNat 33) = ints (toB 33 (remT x y 0)) from by (rw [remT_0 (p256_32 ▸ hx), ← toB_0]; exact zeros_ints 33)] at G
 refine av J Y Y fun a J=> s0 <| then_n (hK3 _ _ <| wp_seq_k fun K4 hK4=> wp_region_lit <| so (wn Y) (O.buildSlice (l := ints [0]) Y Y J Tryz.underlying61 inf3 Y Y (J.evp Y) (by decide) Y G fun b15 a w J G=> ?_))
 refine mv J Y Y fun a J=> so (wn Y) (O.appendO Y Y J Tryz.underlying61 inf3 Y Y (by decide) (J.ev Y) (J.ev Y) G (own_z1 b15) (fun _=> .h) (hB.old G) (by rw [length_ints, length_toB]) (ints_one _) (by unfold maxLen; omega) (by omega) fun A17 c17 s17 a w hO17 J G=> ?_)
 rw [show 1 + 32 = 33 from rfl] at J hO17; rw [toB_33 hy] at hO17
 refine av J Y Y fun a J=> s0 <| then_n (hK4 _ _ <| wp_seq_k fun K5 hK5=> wp_seq_k fun K6 hK6=> wp_region_lit <| av J Y Y fun a J=> s0 <| then_n (hK6 _ _ <| wp_block <| wp_loop_N (fun g a w=> ∃ (i : Nat) (br : Nat), 256 - i = g ∧ Fr 77 [(0, .slice A 32 c), (6, .slice (some ⟨b13, 0, none⟩) 32 32), (7, .slice (some ⟨br, 0, none⟩) 33 33), (8, .slice A17 33 c17), (9, .int .i64 ((i : Nat) : Int))] a ∧ St w0 [] [[(br, Cel (ints (toB 33 (remT x y i))) 3)], [(b13, Cel (ints (toB 32 (quoT x y i))) 3)], s17] w ∧ (i ≤ 256)) (256 - 0) ?_ ?_))
 ·exact ⟨0, b14, Y, J.sub ⟨Y, Y, Y, Y, Y, trivial⟩, G.sel [1, 2, 0] Y Y, by omega⟩
 rintro KL1 g a w ⟨i, br, hg1, J, G, hi⟩ hKL1
 have hbt := bit2_le x (255 - i); have hrl := remT_lt (x := x) (i := i) hy0
 refine wp_seq_k fun K7 hK7=> wp_seq_k fun K8 hK8=> wp_region_lit <| mv J Y Y fun a J=> lS J Y Y Y fun a J=> s0 <| then_n (hK8 _ _ <| cD J Y (fun c1=> ?_) (fun c1=> ?_))
 ·refine wp_skip <| then_n (hK7 _ _ <| wp_seq_k fun K9 hK9=> wp_block <| wp_seq_k fun K10 hK10=> wp_region_lit <| mv J Y Y fun a J=> mv J Y Y fun a J=> sw J Y Y Y (R.quoI (J.ev Y) (J.ev Y) (by omega)) fun a J=> sw J Y Y Y (R.indexO Tryz.underlying61 sz3 (J.ev Y) (Rd.ne hA (by rw [length_ints, length_toB]; omega)) (J.ev Y) (by omega) (by omega)) fun a J=> sw J Y Y Y (R.loadO one3 (J.ev Y) (hA.old G) (ints_getT (t := 31 - i / 8) (by omega) (by omega))) fun a J=> mv J Y Y fun a J=> sw J Y Y Y (R.remI (J.ev Y) (J.ev Y) (by omega)) fun a J=> sw J Y Y Y (R.subI (J.ev Y) (J.ev Y) (by omega)) fun a J=> sw J Y Y Y (R.shrI (m := 7 - i % 8) (J.ev Y) ((J.ev Y).trans (congrArg (Value.int .i64) (by omega))) (by omega)) fun a J=> sw J Y Y Y (R.as (u := .int .i64 ((x / 2 ^ (255 - i) % 2 : Nat) : Int)) (R.andI (q := 1) (J.ev Y) (J.ev Y) (Nat.lt_of_le_of_lt (Nat.div_le_self _ _) (by omega)) (by decide)) (congrArg (fun z : Nat=> Value.int .i64 (z : Int)) (by rw [Nat.and_one_is_mod, bit_of (by omega)]))) fun a J=> av J Y Y fun a J=> s0 <| then_n (hK10 _ _ <| wp_seq_k fun K11 hK11=> wp_seq_k fun K12 hK12=> wp_region_lit <| av J Y Y fun a J=> s0 ?_))
  refine then_n (hK12 _ _ <| wp_block <| wp_loop_N (fun g a w=> ∃ (k : Nat), 33 - k = g ∧ Fr 77 [(0, .slice A 32 c), (6, .slice (some ⟨b13, 0, none⟩) 32 32), (7, .slice (some ⟨br, 0, none⟩) 33 33), (8, .slice A17 33 c17), (9, .int .i64 ((i : Nat) : Int)), (10, .int .i64 ((x / 2 ^ (255 - i) % 2 : Nat) : Int)), (11, .int .i64 ((k : Nat) : Int))] a ∧ St w0 [] [[(br, Cel (ints (mixL (toB 33 (2 * remT x y i + x / 2 ^ (255 - i) % 2)) (toB 33 (remT x y i)) k)) 3)], [(b13, Cel (ints (toB 32 (quoT x y i))) 3)], s17] w ∧ (k ≤ 33)) (33 - 0) ?_ ?_)
  ·exact ⟨0, Y, J.sub ⟨Y, Y, Y, Y, Y, Y, Y, trivial⟩, G.sel [0, 1, 2] Y (by rw [mixB_0]; rfl), by omega⟩
  rintro KL2 g a w ⟨k, hg2, J, G, hk⟩ hKL2
  refine wp_seq_k fun K13 hK13=> wp_seq_k fun K14 hK14=> wp_region_lit <| mv J Y Y fun a J=> lS J Y Y Y fun a J=> s0 <| then_n (hK14 _ _ <| cD J Y (fun c2=> ?_) (fun c2=> ?_))
  ·refine wp_skip <| then_n (hK13 _ _ <| wp_seq_k fun K15 hK15=> wp_block <| wp_seq_k fun K16 hK16=> wp_region_lit <| av J Y Y fun a J=> s0 <| then_n (hK16 _ _ <| wp_seq_k fun K17 hK17=> ?_))
   have hK17' : ∀ a w, (Fr 77 [(0, .slice A 32 c), (6, .slice (some ⟨b13, 0, none⟩) 32 32), (7, .slice (some ⟨br, 0, none⟩) 33 33), (8, .slice A17 33 c17), (9, .int .i64 ((i : Nat) : Int)), (10, .int .i64 ((x / 2 ^ (255 - i) % 2 : Nat) : Int)), (11, .int .i64 ((k : Nat) : Int)), (12, .int .i64 (((if 0 < 32 - k then remT x y i / 256 ^ (32 - k - 1) % 256 / 128 else x / 2 ^ (255 - i) % 2) : Nat) : Int))] a ∧ St w0 [] [[(br, Cel (ints (mixL (toB 33 (2 * remT x y i + x / 2 ^ (255 - i) % 2)) (toB 33 (remT x y i)) k)) 3)], [(b13, Cel (ints (toB 32 (quoT x y i))) 3)], s17] w) → K17 a w := by
    rintro a w ⟨J, G⟩
    refine hK17 _ _ ?_
    have hup : (if 0 < 32 - k then remT x y i / 256 ^ (32 - k - 1) % 256 / 128 else x / 2 ^ (255 - i) % 2) ≤ 1 := by split <;> omega
    refine wp_region_lit <| mv J Y Y fun a J=> mv J Y Y fun a J=> mv J Y Y fun a J=> mv J Y Y fun a J=> sw J Y Y Y (R.indexS Tryz.underlying61 sz3 (J.ev Y) (J.ev Y) (by omega) (by omega)) fun a J=> sw J Y Y Y (R.load one3 (J.ev Y) G .h (mixB_get (i := k) (by omega) (by omega) (by omega))) fun a J=> sw J Y Y Y (R.remI (J.ev Y) (J.ev Y) (by omega)) fun a J=> sw J Y Y Y (R.mulI (J.ev Y) (J.ev Y) (by omega)) fun a J=> mv J Y Y fun a J=> aI J Y Y Y (by omega) fun a J=> sw J Y Y Y (R.indexS Tryz.underlying61 sz3 (J.ev Y) (J.ev Y) (by omega) (by omega)) fun a J=> so (wn Y) (O.store sz3 (J.ev Y) (J.ev Y) Y Y G .h (mixB_set (b := x / 2 ^ (255 - i) % 2) (d := remT x y i / 256 ^ (32 - k) % 256 % 128 * 2 + (if 0 < 32 - k then remT x y i / 256 ^ (32 - k - 1) % 256 / 128 else x / 2 ^ (255 - i) % 2)) Y hbt (by omega) Y (by omega) (congrArg (Value.int .i64) (by omega))) (by rw [length_ints, length_mixL (length_toB 33 _) (length_toB 33 _) (by omega)]; omega) fun w G=> ?_)
    refine s0 <| blk_n <| then_n (hK15 _ _ <| wp_region_lit <| mv J Y Y fun a J=> aI J Y Y Y (by omega) fun a J=> av J Y Y fun a J=> s0 <| then_n (hKL2 (33 - (k + 1)) _ _ ?_ ?_))
    ·omega
    exact ⟨k + 1, Y, J.sub ⟨Y, Y, Y, Y, Y, Y, (congrArg (fun z => some (Value.int .i64 z)) (by omega)), trivial⟩, G.sel [0, 1, 2] Y Y, by omega⟩
   refine wp_seq_k fun K18 hK18=> wp_region_lit <| mv J Y Y fun a J=> lS J Y Y Y fun a J=> s0 <| then_n (hK18 _ _ <| cD J Y (fun c3=> ?_) (fun c3=> ?_))
   ·refine wp_region_lit <| mv J Y Y fun a J=> mv J Y Y fun a J=> aI J Y Y Y (by omega) fun a J=> sw J Y Y Y (R.indexS Tryz.underlying61 sz3 (J.ev Y) (J.ev Y) (by omega) (by omega)) fun a J=> sw J Y Y Y (R.load one3 (J.ev Y) G .h (mixB_get (i := k + 1) (by omega) (by omega) (by omega))) fun a J=> sw J Y Y Y (R.quoI (J.ev Y) (J.ev Y) (by omega)) fun a J=> av J Y Y fun a J=> s0 ?_
    exact then_n (hK17' _ _ ⟨J.sub ⟨Y, Y, Y, Y, Y, Y, Y, (congrArg (fun z => some (Value.int .i64 z)) (by have := up_T (R := remT x y i) (b := x / 2 ^ (255 - i) % 2) (k := k) (by omega); omega)), trivial⟩, G.sel [0, 1, 2] Y Y⟩)
   refine wp_region_lit <| mv J Y Y fun a J=> av J Y Y fun a J=> s0 ?_
   exact then_n (hK17' _ _ ⟨J.sub ⟨Y, Y, Y, Y, Y, Y, Y, (congrArg (fun z : Nat => some (Value.int .i64 (z : Int))) (up_F (k := k) (by omega))), trivial⟩, G.sel [0, 1, 2] Y Y⟩)
  obtain rfl : k = 33 := by omega
  rw [mixB_33] at G
  refine wp_exit (then_x (then_x (blk_hit <| then_n (hK11 _ _ <| wp_seq_k fun K19 hK19=> wp_region_lit <| mv J Y Y fun a J=> mv J Y Y fun a J=> so (wn Y) (O.call Y Y J ent97 (J.evs Y) G (cmpB_calls (some ⟨br, 0, none⟩) A17 33 33 c17 (2 * remT x y i + x / 2 ^ (255 - i) % 2) y w (Rd.own0 G .h) (hO17.rd G (.t (.t .h))) (by decide) (two_33 hrl hy hbt) (lt_33 hy)) fun v s58 a w hR J G=> ?_)))))
  obtain ⟨rfl, rfl⟩ := hR
  refine sw J Y Y Y (R.geq (J.ev Y) (J.ev Y)) fun a J=> s0 <| then_n (hK19 _ _ <| cD J Y (fun c4=> ?_) (fun c4=> ?_))
  ·have hc := cmpV_ge.1 c4
   refine wp_seq_k fun K20 hK20=> wp_region_lit <| mv J Y Y fun a J=> mv J Y Y fun a J=> so (wn Y) (O.call Y Y J ent98 (J.evs Y) G (lessB_calls (some ⟨br, 0, none⟩) A17 33 33 c17 (2 * remT x y i + x / 2 ^ (255 - i) % 2) y w (Rd.own0 G (.t .h)) (hO17.rd G (.t (.t (.t .h)))) (by decide) hc) fun v s62 a w hR J G=> ?_)
   obtain ⟨b62, rfl, rfl⟩ := hR
   refine av J Y Y fun a J=> s0 <| then_n (hK20 _ _ <| wp_drawS G [(0, 0), (1, 0), (2, 0), (3, 0), (4, 1), (5, 0), (6, 0), (7, 0), (8, 0), (9, 0), (10, 0), (11, 3)] mix (by kernel_rfl) (hP.then.block.then.then.block) fun w G=> ?_)
   have hD := G
   refine dm J Y Y Y fun a J=> dm J Y Y Y fun a J=> dv J Y Y Y Y (fun w=> R.quoI (J.ev Y) (J.ev Y) (by omega)) fun a J=> dv J Y Y Y Y (fun w=> R.indexS Tryz.underlying61 sz3 (J.ev Y) (J.ev Y) (by omega) (by omega)) fun a J=> ds J Y Y Y Y hD (fun w hD=> R.load one3 (J.ev Y) hD (.t (.t (.t .h))) (ints_getT (t := 31 - i / 8) (by omega) (by omega))) fun a J=> ?_
   refine dm J Y Y Y fun a J=> dv J Y Y Y Y (fun w=> R.remI (J.ev Y) (J.ev Y) (by omega)) fun a J=> dv J Y Y Y Y (fun w=> R.subI (J.ev Y) (J.ev Y) (by omega)) fun a J=> dv J Y Y Y Y (fun w=> R.shlI (p := 1) (m := 7 - i % 8) (J.ev Y) ((J.ev Y).trans (congrArg (Value.int .i64) (by omega))) (by omega) (by rw [Nat.one_mul]; exact Nat.lt_of_le_of_lt (Nat.pow_le_pow_right (by decide) (show 7 - i % 8 ≤ 7 by omega)) (by decide))) fun a J=> dv J Y Y Y Y (fun w=> R.as (u := .int .i64 ((quoT x y i / 256 ^ (31 - i / 8) % 256 + 2 ^ (7 - i % 8) : Nat) : Int)) (R.orI (J.ev Y) (J.ev Y) (by omega) (by rw [Nat.one_mul]; exact Nat.lt_of_le_of_lt (Nat.pow_le_pow_right (by decide) (show 7 - i % 8 ≤ 7 by omega)) (by decide))) (congrArg (fun z : Nat=> Value.int .i64 (z : Int)) (by rw [Nat.one_mul, quoT_or (by omega)]))) fun a J=> dv J Y Y Y Y (fun w=> R.indexS Tryz.underlying61 sz3 (J.ev Y) (J.ev Y) (by omega) (by omega)) fun a J=> dw Y (wn Y) (O.store sz3 (J.ev Y) (J.ev Y) Y Y G (.t (.t (.t .h))) (ints_setB (k := 32) (t := 31 - i / 8) (e := quoT x y i / 256 ^ (31 - i / 8) % 256 + 2 ^ (7 - i % 8)) (by omega) (quoT_lt (by omega)) (by omega) Y) (by rw [length_ints, length_toB]; omega) fun w G=> ?_)
   rw [quoT_set (by omega)] at G
   refine d0 <| blk_n <| then_n (hK9 _ _ <| wp_region_lit <| mv J Y Y fun a J=> aI J Y Y Y (by omega) fun a J=> av J Y Y fun a J=> s0 <| then_n (hKL1 (256 - (i + 1)) _ _ ?_ ?_))
   ·omega
   exact ⟨i + 1, b62, Y, J.sub ⟨Y, Y, Y, Y, (congrArg (fun z => some (Value.int .i64 z)) (by omega)), trivial⟩, G.sel [0, 3, 4] Y (by first | (rw [rem_T hy0 (by omega) hc, quo_T hy0 (by omega) hc]; rfl) | (rw [rem_F hy0 (by omega) hc, quo_F hy0 (by omega) hc]; rfl)), by omega⟩
  have hc : ¬ y ≤ (2 * remT x y i + x / 2 ^ (255 - i) % 2) := fun h => c4 (cmpV_ge.2 h)
  refine wp_skip <| blk_n <| then_n (hK9 _ _ <| wp_region_lit <| mv J Y Y fun a J=> aI J Y Y Y (by omega) fun a J=> av J Y Y fun a J=> s0 <| then_n (hKL1 (256 - (i + 1)) _ _ ?_ ?_))
  ·omega
  exact ⟨i + 1, br, Y, J.sub ⟨Y, Y, Y, Y, (congrArg (fun z => some (Value.int .i64 z)) (by omega)), trivial⟩, G.sel [1, 2, 3] Y (by first | (rw [rem_T hy0 (by omega) hc, quo_T hy0 (by omega) hc]; rfl) | (rw [rem_F hy0 (by omega) hc, quo_F hy0 (by omega) hc]; rfl)), by omega⟩
 obtain rfl : i = 256 := by omega
 rw [quoT_end, remT_end] at G
 refine wp_exit (then_x (then_x (blk_hit <| then_n (hK5 _ _ <| wp_seq_k fun K21 hK21=> wp_drawS G [(0, 0), (1, 0), (2, 0), (3, 0), (4, 0)] mix (by kernel_rfl) (hP.then) fun w G=> ?_))))
 have hD := G
 refine dm J Y Y Y fun a J=> dm J Y Y Y fun a J=> dv J Y Y Y Y (fun w=> R.as (u := .slice (some ⟨br, 1, none⟩) 32 32) (R.sliceLo (p := 1) Tryz.underlying61 (J.ev Y) (J.ev Y) (by decide) sz3) (Y)) fun a J=> da J Y Y Y fun a J=> da J Y Y Y fun a J=> d0 <| then_n (hK21 _ _ <| wp_ret (hR _ _ _ _ _ J (run_results Tryz.results62 (.t J Y (.t J Y (.nil)))) ?_))
 exact ⟨_, _, Y, ⟨b13, br, Y, Y⟩, ((G.sel [1, 0] Y Y).flat (bs' := [_ ++ _]) (by simp [selS])).one .h⟩
end Go.Proofs.YtlapmbkfmbkdoaaGreatDoor
end
section
namespace Go.Proofs.YtlapmbkfmbkdoaaGreatDoor
open Go Go.Fw Go.RowKit
attribute [local irreducible] Go.Oper.wp Go.Code.wp Go.wpList Go.Fw.WL Go.Calls
theorem number32 (A : Option Addr) (c v : Nat) (w0 : World) (hA : Rd w0 A (ints (toB 32 v))) : Ret Tryz.prog 29 [.slice A 32 c] w0 [] (fun u s => u = wv (v % 256 ^ 32) ∧ s = []) := by
  have := number_calls A c (toB 32 v) w0 hA toB_lt (by rw [length_toB]; decide)
  rwa [length_toB, numB_toB] at this
theorem M256 : (256 : Nat) ^ 32 = 115792089237316195423570985008687907853269984665640564039457584007913129639936 := by decide
def SumR (c x y : Nat) (v : Value) : Prop := match arithN c x y with | some r => v = .tuple #[wv r, .bool true] | none => ∃ r, v = .tuple #[wv r, .bool false]
theorem sum_over {c x y z : Nat} (h : arithN c x y = if z < 256 ^ 32 then some z else none) : SumR c x y (.tuple #[wv (z % 256 ^ 32), .bool (decide (z < 256 ^ 32))]) := by
  unfold SumR
  rw [h]
  by_cases hz : z < 256 ^ 32
  · rw [if_pos hz, decide_eq_true hz, Nat.mod_eq_of_lt hz]
  · rw [if_neg hz, decide_eq_false hz]; exact ⟨_, rfl⟩
theorem sum_some {c x y r : Nat} (h : arithN c x y = some r) : SumR c x y (.tuple #[wv r, .bool true]) := by unfold SumR; rw [h]
theorem sum_none {c x y r : Nat} (h : arithN c x y = none) : SumR c x y (.tuple #[wv r, .bool false]) := by unfold SumR; rw [h]; exact ⟨_, rfl⟩
theorem ar_6 (x y : Nat) : arithN 6 x y = if x + y < 256 ^ 32 then some (x + y) else none := by rw [M256]; rfl
theorem ar_8 (x y : Nat) : arithN 8 x y = if x * y < 256 ^ 32 then some (x * y) else none := by rw [M256]; rfl
theorem ar_7b {x y : Nat} (h : x < y) : arithN 7 x y = none := by show (if x < y then none else some (x - y)) = none; rw [if_pos h]
theorem ar_7g {x y : Nat} (h : ¬ x < y) : arithN 7 x y = some (x - y) := by show (if x < y then none else some (x - y)) = _; rw [if_neg h]
theorem ar_0 {c x : Nat} (h : c = 9 ∨ c = 10) : arithN c x 0 = none := by rcases h with rfl | rfl <;> rfl
theorem ar_9 {x y : Nat} (h : y ≠ 0) : arithN 9 x y = some (x / y) := by show (if y = 0 then none else some (x / y)) = _; rw [if_neg h]
theorem ar_10 {x y : Nat} (h : y ≠ 0) : arithN 10 x y = some (x % y) := by show (if y = 0 then none else some (x % y)) = _; rw [if_neg h]
theorem cmp_dec (x y : Nat) : decide (cmpV x y < 0) = decide (x < y) := decide_eq_decide.2 cmpV_neg
theorem mul_64 {x y : Nat} (hx : x < 256 ^ 32) (hy : y < 256 ^ 32) : x * y < 256 ^ 64 := by
  have := Nat.mul_lt_mul'' hx hy
  rwa [← Nat.pow_add] at this
theorem rcount_int (z : Int) (w0 : World) (hz : 0 ≤ z ∧ z ≤ 9223372036854775807) : Ret Tryz.prog 60 [.int .i64 z] w0 [] (fun v s => v = wv z.toNat ∧ s = []) := by
  obtain ⟨n, rfl⟩ : ∃ n : Nat, z = n := ⟨z.toNat, by omega⟩
  exact rcount_calls n w0 (by omega)
set_option maxHeartbeats 2000000 in
theorem sum_calls (c x y : Nat) (w0 : World) (hc : 6 ≤ c ∧ c ≤ 12) (hx : x < 115792089237316195423570985008687907853269984665640564039457584007913129639936) (hy : y < 115792089237316195423570985008687907853269984665640564039457584007913129639936) : Ret Tryz.prog 44 [.int .i64 ((c : Nat) : Int), wv x, wv y] w0 [] (fun v s => SumR c x y v ∧ s = []) := by
 refine fn_start Tryz.func44 Y Tryz.ntmps44 Y [(0, .int .i64 ((c : Nat) : Int)), (1, wv x), (2, wv y)] ⟨Y, Y, Y, trivial⟩ ?_
 intro Q a hP J hR hN
 have G := St.start w0
 have hx' : x < 256 ^ 32 := by (rw [M256]; exact hx)
 have hy' : y < 256 ^ 32 := by (rw [M256]; exact hy)
 refine wp_seq_k fun K1 hK1=> wp_region_lit <| so (wn Y) (O.box Y Y J (J.ev Y) Y G fun b4 a w J G=> ?_)
 refine so (wn Y) (O.box Y Y J (J.ev Y) Y G fun b5 a w J G=> ?_)
 refine so (wn Y) (O.alloc Y Y J ze32 Y G fun b6 a w J G=> ?_)
 refine av J Y Y fun a J=> s0 <| then_n (hK1 _ _ <| wp_seq_k fun K2 hK2=> wp_region_lit <| sw J Y Y Y (R.loadW agg32 (J.ev Y) G (.t (.t .h)) sz32 (Y)) fun a J=> so (wn Y) (O.call Y Y J ent61 (J.evs Y) G (dig_calls x w) fun v s15 a w hR J G=> ?_))
 obtain ⟨b15, rfl, rfl⟩ := hR
 refine av J Y Y fun a J=> s0 <| then_n (hK2 _ _ <| wp_seq_k fun K3 hK3=> wp_region_lit <| sw J Y Y Y (R.loadW agg32 (J.ev Y) G (.t (.t .h)) sz32 (Y)) fun a J=> so (wn Y) (O.call Y Y J ent61 (J.evs Y) G (dig_calls y w) fun v s17 a w hR J G=> ?_))
 obtain ⟨b17, rfl, rfl⟩ := hR
 refine av J Y Y fun a J=> s0 <| then_n (hK3 _ _ <| wp_seq_k fun K4 hK4=> wp_seq_k fun K5 hK5=> wp_region_lit <| mv J Y Y fun a J=> eL J Y Y Y fun a J=> s0 <| then_n (hK5 _ _ <| cD J Y (fun c1=> ?_) (fun c1=> ?_)))
 ·obtain rfl : c = 6 := by omega
  refine wp_seq_k fun K6 hK6=> wp_region_lit <| mv J Y Y fun a J=> mv J Y Y fun a J=> so (wn Y) (O.call Y Y J ent95 (J.evs Y) G (plus_calls (some ⟨b15, 0, none⟩) (some ⟨b17, 0, none⟩) 32 32 x y w (Rd.own0 G (.t .h)) (Rd.own0 G .h) hx' hy') fun v s22 a w hR J G=> ?_)
  obtain ⟨b22, rfl, rfl⟩ := hR
  refine av J Y Y fun a J=> s0 <| then_n (hK6 _ _ <| wp_seq_k fun K7 hK7=> wp_region_lit <| mv J Y Y fun a J=> sw J Y Y Y (R.as (u := .slice (some ⟨b22, 1, none⟩) 32 32) (R.sliceLo (p := 1) Tryz.underlying61 (J.ev Y) (J.ev Y) (by decide) sz3) (Y)) fun a J=> so (wn Y) (O.call Y Y J ent29 (J.evs Y) G (number32 (some ⟨b22, 1, none⟩) 32 (x + y) w (rd_tail (n := 32) (j := 1) (Rd.own0 G .h))) fun v s25 a w hR J G=> ?_))
  obtain ⟨rfl, rfl⟩ := hR
  refine mv J Y Y fun a J=> so (wn Y) (O.call Y Y J ent96 (J.evs Y) G (wholly_calls (some ⟨b22, 0, none⟩) 33 33 (x + y) w (Rd.own0 G (.t .h)) (by decide) (sum_lt33 hx' hy')) fun v s27 a w hR J G=> ?_)
  obtain ⟨rfl, rfl⟩ := hR
  refine so (wn Y) (O.storeW sz32 (J.ev Y) (J.ev Y) (Y) Y (by simp [Value.oneCell']) G (.t (.t (.t (.t (.t .h))))) (Y) fun w G=> ?_)
  refine av J Y Y fun a J=> s0 <| then_n (hK7 _ _ <| wp_ret (then_r (hR _ _ _ _ _ J (run_results Tryz.results44 (.cw J Y agg32 G (.t (.t (.t (.t (.t .h))))) sz32 (Y) (.t J Y (.nil)))) ?_)))
  exact ⟨_, [], Y, ⟨sum_over (ar_6 x y), Y⟩, G.none⟩
 refine wp_skip <| then_n (hK4 _ _ <| wp_seq_k fun K8 hK8=> wp_seq_k fun K9 hK9=> wp_region_lit <| mv J Y Y fun a J=> eL J Y Y Y fun a J=> s0 <| then_n (hK9 _ _ <| cD J Y (fun c2=> ?_) (fun c2=> ?_)))
 ·obtain rfl : c = 7 := by omega
  refine wp_seq_k fun K10 hK10=> wp_seq_k fun K11 hK11=> wp_region_lit <| mv J Y Y fun a J=> mv J Y Y fun a J=> so (wn Y) (O.call Y Y J ent97 (J.evs Y) G (cmpB_calls (some ⟨b15, 0, none⟩) (some ⟨b17, 0, none⟩) 32 32 32 x y w (Rd.own0 G (.t .h)) (Rd.own0 G .h) (by decide) hx' hy') fun v s32 a w hR J G=> ?_)
  obtain ⟨rfl, rfl⟩ := hR
  refine lS J Y Y Y fun a J=> s0 <| then_n (hK11 _ _ <| cD J Y (fun c3=> ?_) (fun c3=> ?_))
  ·refine wp_seq_k fun K12 hK12=> wp_region_lit <| sw J Y Y Y (R.buildArr (l := [_, _, _, _]) Tryz.underlying32 ze32 sz30 (J.evp Y) Y) fun a J=> so (wn Y) (O.storeW sz32 (J.ev Y) (J.ev Y) (Y) Y (by simp [Value.oneCell']) G (.t (.t (.t .h))) (Y) fun w G=> ?_)
   refine av J Y Y fun a J=> s0 <| then_n (hK12 _ _ <| wp_ret (then_r (then_r (hR _ _ _ _ _ J (run_results Tryz.results44 (.cw J Y agg32 G (.t (.t (.t .h))) sz32 (Y) (.t J Y (.nil)))) ?_))))
   exact ⟨_, [], Y, ⟨sum_none (r := 0) (ar_7b (cmpV_neg.1 c3)), Y⟩, G.none⟩
  refine wp_skip <| then_n (hK10 _ _ <| wp_seq_k fun K13 hK13=> wp_region_lit <| mv J Y Y fun a J=> mv J Y Y fun a J=> so (wn Y) (O.call Y Y J ent98 (J.evs Y) G (lessB_calls (some ⟨b15, 0, none⟩) (some ⟨b17, 0, none⟩) 32 32 32 x y w (Rd.own0 G (.t (.t .h))) (Rd.own0 G (.t .h)) (by decide) (Nat.le_of_not_lt (fun h=> c3 (cmpV_neg.2 h)))) fun v s37 a w hR J G=> ?_))
  obtain ⟨b37, rfl, rfl⟩ := hR
  refine so (wn Y) (O.call Y Y J ent29 (J.evs Y) G (number32 (some ⟨b37, 0, none⟩) 32 (x - y) w (Rd.own0 G .h)) fun v s38 a w hR J G=> ?_)
  obtain ⟨rfl, rfl⟩ := hR
  refine so (wn Y) (O.storeW sz32 (J.ev Y) (J.ev Y) (Y) Y (by simp [Value.oneCell']) G (.t (.t (.t (.t (.t .h))))) (Y) fun w G=> ?_)
  refine av J Y Y fun a J=> s0 <| then_n (hK13 _ _ <| wp_ret (then_r (hR _ _ _ _ _ J (run_results Tryz.results44 (.cw J Y agg32 G (.t (.t (.t (.t (.t .h))))) sz32 (Y) (.t J Y (.nil)))) ?_)))
  exact ⟨_, [], Y, ⟨by (have h9 : (x - y) % 256 ^ 32 = x - y := Nat.mod_eq_of_lt (by omega)); rw [h9]; exact sum_some (ar_7g (fun h => c3 (cmpV_neg.2 h))), Y⟩, G.none⟩
 refine wp_skip <| then_n (hK8 _ _ <| wp_seq_k fun K14 hK14=> wp_seq_k fun K15 hK15=> wp_region_lit <| mv J Y Y fun a J=> eL J Y Y Y fun a J=> s0 <| then_n (hK15 _ _ <| cD J Y (fun c4=> ?_) (fun c4=> ?_)))
 ·obtain rfl : c = 8 := by omega
  refine wp_seq_k fun K16 hK16=> wp_region_lit <| mv J Y Y fun a J=> mv J Y Y fun a J=> so (wn Y) (O.call Y Y J ent99 (J.evs Y) G (timesB_calls (some ⟨b15, 0, none⟩) (some ⟨b17, 0, none⟩) 32 32 x y w (Rd.own0 G (.t .h)) (Rd.own0 G .h) hx' hy') fun v s43 a w hR J G=> ?_)
  obtain ⟨b43, rfl, rfl⟩ := hR
  refine av J Y Y fun a J=> s0 <| then_n (hK16 _ _ <| wp_seq_k fun K17 hK17=> wp_region_lit <| mv J Y Y fun a J=> sw J Y Y Y (R.as (u := .slice (some ⟨b43, 32, none⟩) 32 32) (R.sliceLo (p := 32) Tryz.underlying61 (J.ev Y) (J.ev Y) (by decide) sz3) (Y)) fun a J=> so (wn Y) (O.call Y Y J ent29 (J.evs Y) G (number32 (some ⟨b43, 32, none⟩) 32 (x * y) w (rd_tail (n := 32) (j := 32) (Rd.own0 G .h))) fun v s46 a w hR J G=> ?_))
  obtain ⟨rfl, rfl⟩ := hR
  refine mv J Y Y fun a J=> so (wn Y) (O.call Y Y J ent96 (J.evs Y) G (wholly_calls (some ⟨b43, 0, none⟩) 64 64 (x * y) w (Rd.own0 G (.t .h)) (by decide) (mul_64 hx' hy')) fun v s48 a w hR J G=> ?_)
  obtain ⟨rfl, rfl⟩ := hR
  refine so (wn Y) (O.storeW sz32 (J.ev Y) (J.ev Y) (Y) Y (by simp [Value.oneCell']) G (.t (.t (.t (.t (.t .h))))) (Y) fun w G=> ?_)
  refine av J Y Y fun a J=> s0 <| then_n (hK17 _ _ <| wp_ret (then_r (hR _ _ _ _ _ J (run_results Tryz.results44 (.cw J Y agg32 G (.t (.t (.t (.t (.t .h))))) sz32 (Y) (.t J Y (.nil)))) ?_)))
  exact ⟨_, [], Y, ⟨sum_over (ar_8 x y), Y⟩, G.none⟩
 refine wp_skip <| then_n (hK14 _ _ <| wp_seq_k fun K18 hK18=> wp_seq_k fun K19 hK19=> wp_region_lit <| mv J Y Y fun a J=> eL J Y Y Y fun a J=> s0 <| then_n (hK19 _ _ <| cD J Y (fun c5=> ?_) (fun c5=> ?_)))
 ·obtain rfl : c = 11 := by omega
  refine wp_seq_k fun K20 hK20=> wp_region_lit <| mv J Y Y fun a J=> mv J Y Y fun a J=> so (wn Y) (O.call Y Y J ent97 (J.evs Y) G (cmpB_calls (some ⟨b15, 0, none⟩) (some ⟨b17, 0, none⟩) 32 32 32 x y w (Rd.own0 G (.t .h)) (Rd.own0 G .h) (by decide) hx' hy') fun v s53 a w hR J G=> ?_)
  obtain ⟨rfl, rfl⟩ := hR
  refine lS J Y Y Y fun a J=> so (wn Y) (O.call Y Y J ent45 (J.evs Y) G (rtruth_calls (cmpV x y < 0) w) fun v s55 a w hR J G=> ?_)
  obtain ⟨rfl, rfl⟩ := hR
  refine so (wn Y) (O.storeW sz32 (J.ev Y) (J.ev Y) (Y) Y (by simp [Value.oneCell']) G (.t (.t (.t (.t .h)))) (Y) fun w G=> ?_)
  refine av J Y Y fun a J=> s0 <| then_n (hK20 _ _ <| wp_ret (then_r (hR _ _ _ _ _ J (run_results Tryz.results44 (.cw J Y agg32 G (.t (.t (.t (.t .h)))) sz32 (Y) (.t J Y (.nil)))) ?_)))
  exact ⟨_, [], Y, ⟨by rw [cmp_dec]; exact sum_some Y, Y⟩, G.none⟩
 refine wp_skip <| then_n (hK18 _ _ <| wp_seq_k fun K21 hK21=> wp_seq_k fun K22 hK22=> wp_region_lit <| mv J Y Y fun a J=> eL J Y Y Y fun a J=> s0 <| then_n (hK22 _ _ <| cD J Y (fun c6=> ?_) (fun c6=> ?_)))
 ·obtain rfl : c = 12 := by omega
  refine wp_seq_k fun K23 hK23=> wp_region_lit <| sw J Y Y Y (R.loadW agg32 (J.ev Y) G (.t (.t (.t (.t .h)))) sz32 (Y)) fun a J=> sw J Y Y Y (R.loadW agg32 (J.ev Y) G (.t (.t (.t .h))) sz32 (Y)) fun a J=> sw J Y Y Y (R.eqlW (x := x) (y := y) (J.ev Y) (J.ev Y) hx hy) fun a J=> so (wn Y) (O.call Y Y J ent45 (J.evs Y) G (rtruth_calls (x = y) w) fun v s61 a w hR J G=> ?_)
  obtain ⟨rfl, rfl⟩ := hR
  refine so (wn Y) (O.storeW sz32 (J.ev Y) (J.ev Y) (Y) Y (by simp [Value.oneCell']) G (.t (.t (.t .h))) (Y) fun w G=> ?_)
  refine av J Y Y fun a J=> s0 <| then_n (hK23 _ _ <| wp_ret (then_r (hR _ _ _ _ _ J (run_results Tryz.results44 (.cw J Y agg32 G (.t (.t (.t .h))) sz32 (Y) (.t J Y (.nil)))) ?_)))
  exact ⟨_, [], Y, ⟨sum_some Y, Y⟩, G.none⟩
 refine wp_skip <| then_n (hK21 _ _ <| wp_seq_k fun K24 hK24=> wp_seq_k fun K25 hK25=> wp_region_lit <| sw J Y Y Y (R.loadW agg32 (J.ev Y) G (.t (.t (.t .h))) sz32 (Y)) fun a J=> so (wn Y) (O.call Y Y J ent46 (J.evs Y) G (nought_calls y w hy) fun v s63 a w hR J G=> ?_))
 obtain ⟨rfl, rfl⟩ := hR
 refine s0 <| then_n (hK25 _ _ <| cD J Y (fun c7=> ?_) (fun c7=> ?_))
 ·refine wp_seq_k fun K26 hK26=> wp_region_lit <| sw J Y Y Y (R.buildArr (l := [_, _, _, _]) Tryz.underlying32 ze32 sz30 (J.evp Y) Y) fun a J=> so (wn Y) (O.storeW sz32 (J.ev Y) (J.ev Y) (Y) Y (by simp [Value.oneCell']) G (.t (.t (.t .h))) (Y) fun w G=> ?_)
  refine av J Y Y fun a J=> s0 <| then_n (hK26 _ _ <| wp_ret (then_r (hR _ _ _ _ _ J (run_results Tryz.results44 (.cw J Y agg32 G (.t (.t (.t .h))) sz32 (Y) (.t J Y (.nil)))) ?_)))
  exact ⟨_, [], Y, ⟨sum_none (r := 0) (by rw [c7]; exact ar_0 (by omega)), Y⟩, G.none⟩
 refine wp_skip <| then_n (hK24 _ _ <| wp_seq_k fun K27 hK27=> wp_region_lit <| mv J Y Y fun a J=> mv J Y Y fun a J=> so (wn Y) (O.call Y Y J ent62 (J.evs Y) G (parts_calls (some ⟨b15, 0, none⟩) (some ⟨b17, 0, none⟩) 32 32 x y w (Rd.own0 G (.t (.t .h))) (Rd.own0 G (.t .h)) hx' hy' (by omega)) fun v s68 a w hR J G=> ?_))
 obtain ⟨bq, br, rfl, rfl⟩ := hR
 refine mv J Y Y fun a J=> xv J Y Y Y fun a J=> xv J Y Y Y fun a J=> av J Y Y fun a J=> av J Y Y fun a J=> s0 <| then_n (hK27 _ _ <| wp_seq_k fun K28 hK28=> wp_seq_k fun K29 hK29=> ?_)
 have G := St.split2 G
 refine wp_region_lit <| mv J Y Y fun a J=> eL J Y Y Y fun a J=> s0 <| then_n (hK29 _ _ <| cD J Y (fun c8=> ?_) (fun c8=> ?_))
 ·obtain rfl : c = 9 := by omega
  refine wp_seq_k fun K30 hK30=> wp_region_lit <| mv J Y Y fun a J=> so (wn Y) (O.call Y Y J ent29 (J.evs Y) G (number32 (some ⟨bq, 0, none⟩) 32 (x / y) w (Rd.own0 G .h)) fun v s74 a w hR J G=> ?_)
  obtain ⟨rfl, rfl⟩ := hR
  refine so (wn Y) (O.storeW sz32 (J.ev Y) (J.ev Y) (Y) Y (by simp [Value.oneCell']) G (.t (.t (.t (.t (.t (.t .h)))))) (Y) fun w G=> ?_)
  refine av J Y Y fun a J=> s0 <| then_n (hK30 _ _ <| wp_ret (then_r (hR _ _ _ _ _ J (run_results Tryz.results44 (.cw J Y agg32 G (.t (.t (.t (.t (.t (.t .h)))))) sz32 (Y) (.t J Y (.nil)))) ?_)))
  exact ⟨_, [], Y, ⟨by rw [Nat.mod_eq_of_lt (Nat.lt_of_le_of_lt (Nat.div_le_self x y) hx')]; exact sum_some (ar_9 c7), Y⟩, G.none⟩
 obtain rfl : c = 10 := by omega
 refine wp_skip <| then_n (hK28 _ _ <| wp_seq_k fun K31 hK31=> wp_region_lit <| mv J Y Y fun a J=> so (wn Y) (O.call Y Y J ent29 (J.evs Y) G (number32 (some ⟨br, 1, none⟩) 32 (x % y) w (rd_tail (n := 32) (j := 1) (Rd.own0 G (.t .h)))) fun v s76 a w hR J G=> ?_))
 obtain ⟨rfl, rfl⟩ := hR
 refine so (wn Y) (O.storeW sz32 (J.ev Y) (J.ev Y) (Y) Y (by simp [Value.oneCell']) G (.t (.t (.t (.t (.t (.t .h)))))) (Y) fun w G=> ?_)
 refine av J Y Y fun a J=> s0 <| then_n (hK31 _ _ <| wp_ret (hR _ _ _ _ _ J (run_results Tryz.results44 (.cw J Y agg32 G (.t (.t (.t (.t (.t (.t .h)))))) sz32 (Y) (.t J Y (.nil)))) ?_))
 exact ⟨_, [], Y, ⟨by rw [Nat.mod_eq_of_lt (Nat.lt_of_le_of_lt (Nat.mod_le x y) hx')]; exact sum_some (ar_10 c7), Y⟩, G.none⟩
set_option maxHeartbeats 2000000 in
theorem told_calls (F : Fx) (c b left : Nat) (w0 : World) (hc : 16 ≤ c ∧ c ≤ 23) (hK : F.Ok) (hA : Rd w0 F.aA (F.cl.args.flatMap wc)) (hl : left ≤ 10000) (hb : b ≤ 255) : Ret Tryz.prog 49 [.int .i64 ((c : Nat) : Int), .int .i64 ((b : Nat) : Int), .agg (callc F).toArray, .int .i64 ((left : Nat) : Int)] w0 [] (fun v s => v = wv (toldN F.cl c b left) ∧ s = []) := by
 refine fn_start Tryz.func49 Y Tryz.ntmps49 Y [(0, .int .i64 ((c : Nat) : Int)), (1, .int .i64 ((b : Nat) : Int)), (2, .agg (callc F).toArray), (3, .int .i64 ((left : Nat) : Int))] ⟨Y, Y, Y, Y, trivial⟩ ?_
 intro Q a hP J hR hN
 have G := St.start w0
 have hct := callOk_iff.1 hK.call; unfold CallP at hct
 refine wp_seq_k fun K1 hK1=> wp_region_lit <| so (wn Y) (O.box Y Y J (J.ev Y) Y G fun b6 a w J G=> ?_)
 refine so (wn Y) (O.alloc Y Y J ze32 Y G fun b8 a w J G=> ?_)
 refine s0 <| then_n (hK1 _ _ <| wp_seq_k fun K2 hK2=> wp_seq_k fun K3 hK3=> wp_region_lit <| mv J Y Y fun a J=> s0 <| then_n (hK3 _ _ <| wp_block <| wp_seq_k fun K4 hK4=> wp_region_lit <| eL J Y Y Y fun a J=> av J Y Y fun a J=> s0 <| then_n (hK4 _ _ <| cD J Y (fun d1=> ?_) (fun d1=> ?_))))
 ·obtain rfl : c = 16 := by omega
  refine wp_seq_k fun K5 hK5=> wp_seq_k fun K6 hK6=> wp_region_lit <| mv J Y Y fun a J=> sw J Y Y Y (R.fieldAddr (k := 45) Tryz.underlying35 Y nz33 (J.ev Y) Y) fun a J=> sw J Y Y Y (R.load one33 (J.ev Y) G (.t .h) (Y)) fun a J=> sw J Y Y Y (R.len Tryz.underlying33 (J.ev Y)) fun a J=> lS J Y Y Y fun a J=> s0 <| then_n (hK6 _ _ <| cD J Y (fun d2=> ?_) (fun d2=> ?_))
  ·refine wp_seq_k fun K7 hK7=> wp_region_lit <| sw J Y Y Y (R.fieldAddr (k := 45) Tryz.underlying35 Y nz33 (J.ev Y) Y) fun a J=> sw J Y Y Y (R.load one33 (J.ev Y) G (.t .h) (Y)) fun a J=> mv J Y Y fun a J=> sw J Y Y Y (R.indexO Tryz.underlying33 sz32 (J.ev Y) (Rd.ne hA (by rw [wcs_length]; omega)) (J.ev Y) (by omega) (by omega)) fun a J=> sw J Y Y Y (R.loadAO (cs := wc (F.cl.args.getD b 0)) agg32 (J.ev Y) (hA.old G) sz32 Y (Nat.succ_pos _) (wcs_at (k := b) (by omega) (by omega))) fun a J=> so (wn Y) (O.storeW sz32 (J.ev Y) (J.ev Y) (Y) Y (by simp [Value.oneCell']) G .h (Y) fun w G=> ?_)
   refine s0 <| then_n (hK7 _ _ <| wp_ret (then_r (blk_r (then_r (hR _ _ _ _ _ J (run_results Tryz.results49 (.cw J Y agg32 G .h sz32 (Y) (.nil))) ?_)))))
   exact ⟨_, [], Y, ⟨Y, Y⟩, G.none⟩
  refine wp_skip <| then_n (hK5 _ _ <| wp_seq_k fun K8 hK8=> wp_region_lit <| sw J Y Y Y (R.buildArr (l := [_, _, _, _]) Tryz.underlying32 ze32 sz30 (J.evp Y) Y) fun a J=> so (wn Y) (O.storeW sz32 (J.ev Y) (J.ev Y) (Y) Y (by simp [Value.oneCell']) G .h (Y) fun w G=> ?_))
  refine s0 <| then_n (hK8 _ _ <| wp_ret (blk_r (then_r (hR _ _ _ _ _ J (run_results Tryz.results49 (.cw J Y agg32 G .h sz32 (Y) (.nil))) ?_))))
  exact ⟨_, [], Y, ⟨by (have h9 : F.cl.args.getD b 0 = 0 := getD_past _ _ (by omega)); rw [show toldN F.cl 16 b left = F.cl.args.getD b 0 from Y, h9]; rfl, Y⟩, G.none⟩
 refine wp_seq_k fun K9 hK9=> wp_region_lit <| eL J Y Y Y fun a J=> av J Y Y fun a J=> s0 <| then_n (hK9 _ _ <| cD J Y (fun d3=> ?_) (fun d3=> ?_))
 ·obtain rfl : c = 17 := by omega
  refine wp_seq_k fun K10 hK10=> wp_region_lit <| sw J Y Y Y (R.fieldAddr (k := 45) Tryz.underlying35 Y nz33 (J.ev Y) Y) fun a J=> sw J Y Y Y (R.load one33 (J.ev Y) G (.t .h) (Y)) fun a J=> sw J Y Y Y (R.len Tryz.underlying33 (J.ev Y)) fun a J=> so (wn Y) (O.call Y Y J ent60 (J.evs Y) G (rcount_calls F.cl.args.length w (by omega)) fun v s28 a w hR J G=> ?_)
  obtain ⟨rfl, rfl⟩ := hR
  refine so (wn Y) (O.storeW sz32 (J.ev Y) (J.ev Y) (Y) Y (by simp [Value.oneCell']) G (.t .h) (Y) fun w G=> ?_)
  refine s0 <| then_n (hK10 _ _ <| wp_ret (blk_r (then_r (hR _ _ _ _ _ J (run_results Tryz.results49 (.cw J Y agg32 G (.t .h) sz32 (Y) (.nil))) ?_))))
  exact ⟨_, [], Y, ⟨Y, Y⟩, G.none⟩
 refine wp_seq_k fun K11 hK11=> wp_region_lit <| eL J Y Y Y fun a J=> av J Y Y fun a J=> s0 <| then_n (hK11 _ _ <| cD J Y (fun d4=> ?_) (fun d4=> ?_))
 ·obtain rfl : c = 18 := by omega
  refine wp_seq_k fun K12 hK12=> wp_region_lit <| sw J Y Y Y (R.fieldAddr (k := 20) Tryz.underlying35 Y nz29 (J.ev Y) Y) fun a J=> sw J Y Y Y (R.loadA (cs := adc F.cl.caller) agg29 (J.ev Y) G (.t .h) sz29 Y (getAt Y)) fun a J=> so (wn Y) (O.call Y Y J ent100 (J.evs Y) G (wideAd_calls F.cl.caller w hK.caller) fun v s33 a w hR J G=> ?_)
  obtain ⟨rfl, rfl⟩ := hR
  refine so (wn Y) (O.storeW sz32 (J.ev Y) (J.ev Y) (Y) Y (by simp [Value.oneCell']) G (.t .h) (Y) fun w G=> ?_)
  refine s0 <| then_n (hK12 _ _ <| wp_ret (blk_r (then_r (hR _ _ _ _ _ J (run_results Tryz.results49 (.cw J Y agg32 G (.t .h) sz32 (Y) (.nil))) ?_))))
  exact ⟨_, [], Y, ⟨Y, Y⟩, G.none⟩
 refine wp_seq_k fun K13 hK13=> wp_region_lit <| eL J Y Y Y fun a J=> av J Y Y fun a J=> s0 <| then_n (hK13 _ _ <| cD J Y (fun d5=> ?_) (fun d5=> ?_))
 ·obtain rfl : c = 19 := by omega
  refine wp_seq_k fun K14 hK14=> wp_region_lit <| sw J Y Y Y (R.fieldAddr (k := 0) Tryz.underlying35 Y nz29 (J.ev Y) Y) fun a J=> sw J Y Y Y (R.loadA (cs := adc F.cl.self) agg29 (J.ev Y) G (.t .h) sz29 Y (getAt Y)) fun a J=> so (wn Y) (O.call Y Y J ent100 (J.evs Y) G (wideAd_calls F.cl.self w hK.self) fun v s38 a w hR J G=> ?_)
  obtain ⟨rfl, rfl⟩ := hR
  refine so (wn Y) (O.storeW sz32 (J.ev Y) (J.ev Y) (Y) Y (by simp [Value.oneCell']) G (.t .h) (Y) fun w G=> ?_)
  refine s0 <| then_n (hK14 _ _ <| wp_ret (blk_r (then_r (hR _ _ _ _ _ J (run_results Tryz.results49 (.cw J Y agg32 G (.t .h) sz32 (Y) (.nil))) ?_))))
  exact ⟨_, [], Y, ⟨Y, Y⟩, G.none⟩
 refine wp_seq_k fun K15 hK15=> wp_region_lit <| eL J Y Y Y fun a J=> av J Y Y fun a J=> s0 <| then_n (hK15 _ _ <| cD J Y (fun d6=> ?_) (fun d6=> ?_))
 ·obtain rfl : c = 20 := by omega
  refine wp_seq_k fun K16 hK16=> wp_region_lit <| sw J Y Y Y (R.fieldAddr (k := 40) Tryz.underlying35 Y nz3 (J.ev Y) Y) fun a J=> sw J Y Y Y (R.load one3 (J.ev Y) G (.t .h) (Y)) fun a J=> so (wn Y) (O.call Y Y J ent60 (J.evs Y) G (rcount_int F.cl.token w ⟨hct.1, by omega⟩) fun v s43 a w hR J G=> ?_)
  obtain ⟨rfl, rfl⟩ := hR
  refine so (wn Y) (O.storeW sz32 (J.ev Y) (J.ev Y) (Y) Y (by simp [Value.oneCell']) G (.t .h) (Y) fun w G=> ?_)
  refine s0 <| then_n (hK16 _ _ <| wp_ret (blk_r (then_r (hR _ _ _ _ _ J (run_results Tryz.results49 (.cw J Y agg32 G (.t .h) sz32 (Y) (.nil))) ?_))))
  exact ⟨_, [], Y, ⟨Y, Y⟩, G.none⟩
 refine wp_seq_k fun K17 hK17=> wp_region_lit <| eL J Y Y Y fun a J=> av J Y Y fun a J=> s0 <| then_n (hK17 _ _ <| cD J Y (fun d7=> ?_) (fun d7=> ?_))
 ·obtain rfl : c = 21 := by omega
  refine wp_seq_k fun K18 hK18=> wp_region_lit <| sw J Y Y Y (R.fieldAddr (k := 41) Tryz.underlying35 Y nz32 (J.ev Y) Y) fun a J=> sw J Y Y Y (R.loadA (cs := [_, _, _, _]) agg32 (J.ev Y) G (.t .h) sz32 Y (getAt Y)) fun a J=> so (wn Y) (O.storeW sz32 (J.ev Y) (J.ev Y) (Y) Y (by simp [Value.oneCell']) G .h (Y) fun w G=> ?_)
  refine s0 <| then_n (hK18 _ _ <| wp_ret (blk_r (then_r (hR _ _ _ _ _ J (run_results Tryz.results49 (.cw J Y agg32 G .h sz32 (Y) (.nil))) ?_))))
  exact ⟨_, [], Y, ⟨Y, Y⟩, G.none⟩
 refine wp_seq_k fun K19 hK19=> wp_region_lit <| eL J Y Y Y fun a J=> av J Y Y fun a J=> s0 <| then_n (hK19 _ _ <| cD J Y (fun d8=> ?_) (fun d8=> ?_))
 ·obtain rfl : c = 22 := by omega
  refine wp_seq_k fun K20 hK20=> wp_region_lit <| sw J Y Y Y (R.fieldAddr (k := 46) Tryz.underlying35 Y nz3 (J.ev Y) Y) fun a J=> sw J Y Y Y (R.load one3 (J.ev Y) G (.t .h) (Y)) fun a J=> so (wn Y) (O.call Y Y J ent60 (J.evs Y) G (rcount_int F.cl.time w ⟨hct.2.2.2.1, by omega⟩) fun v s52 a w hR J G=> ?_)
  obtain ⟨rfl, rfl⟩ := hR
  refine so (wn Y) (O.storeW sz32 (J.ev Y) (J.ev Y) (Y) Y (by simp [Value.oneCell']) G (.t .h) (Y) fun w G=> ?_)
  refine s0 <| then_n (hK20 _ _ <| wp_ret (blk_r (then_r (hR _ _ _ _ _ J (run_results Tryz.results49 (.cw J Y agg32 G (.t .h) sz32 (Y) (.nil))) ?_))))
  exact ⟨_, [], Y, ⟨Y, Y⟩, G.none⟩
 obtain rfl : c = 23 := by omega
 refine wp_skip <| blk_n <| then_n (hK2 _ _ <| wp_seq_k fun K21 hK21=> wp_region_lit <| mv J Y Y fun a J=> so (wn Y) (O.call Y Y J ent60 (J.evs Y) G (rcount_calls left w (by omega)) fun v s54 a w hR J G=> ?_))
 obtain ⟨rfl, rfl⟩ := hR
 refine so (wn Y) (O.storeW sz32 (J.ev Y) (J.ev Y) (Y) Y (by simp [Value.oneCell']) G (.t .h) (Y) fun w G=> ?_)
 refine s0 <| then_n (hK21 _ _ <| wp_ret (hR _ _ _ _ _ J (run_results Tryz.results49 (.cw J Y agg32 G (.t .h) sz32 (Y) (.nil))) ?_))
 exact ⟨_, [], Y, ⟨Y, Y⟩, G.none⟩
end Go.Proofs.YtlapmbkfmbkdoaaGreatDoor
end
section
namespace Go.Proofs.YtlapmbkfmbkdoaaGreatDoor
open Go Go.Fw Go.RowKit
def topN (F : Fx) (stk : List Nat) (p : Nat) : Nat := stk.length - takesN (cAt F.code p)
def uN (F : Fx) (stk : List Nat) (p : Nat) : Nat → Nat := fun i => (stk.drop (topN F stk p)).getD i 0
def DoAt (F : Fx) (stk : List Nat) (left p : Nat) (asks : List Fw.Ask) : Prop := stp F.cl F.code F.rep stk left p asks = doN F.cl F.code F.rep (cAt F.code p) (cAt F.code (p + 1)) p (left - priceN (cAt F.code p)) (stk.take (topN F stk p)) (uN F stk p) asks
theorem do_at {F : Fx} {stk : List Nat} {left p : Nat} {asks : List Fw.Ask} (h : p < F.code.length) (h2 : ¬ left < priceN (cAt F.code p)) (h3 : ¬ (stk.length < deepN F.code p ∨ 64 < stk.length - takesN (cAt F.code p) + laysN (cAt F.code p))) : DoAt F stk left p asks := by
  unfold DoAt
  rw [stp_do h h2 h3]
  congr 1
  funext i
  unfold uN topN
  rw [List.getD_eq_getElem?_getD, List.getD_eq_getElem?_getD, List.getElem?_drop]
def Mid (F : Fx) (stk stk2 on : List Nat) (left p q : Nat) (asks asks2 : List Fw.Ask) : Prop :=
  (cAt F.code p < 24 ∧ asks2 = asks ∧ stp F.cl F.code F.rep stk left p asks = .more (stk2.take (topN F stk p) ++ on) (left - priceN (cAt F.code p)) q asks) ∨
  (24 ≤ cAt F.code p ∧ stk2 = stk ∧ on = [] ∧ q = p + sizeN F.code p ∧ (∃ qq, askN (cAt F.code p) (uN F stk p) = some qq ∧ asks2 = asks ++ [qq]) ∧ DoAt F stk left p asks)
theorem mid_low {F : Fx} {stk stk2 on : List Nat} {left p q : Nat} {asks asks2 : List Fw.Ask} (h : Mid F stk stk2 on left p q asks asks2) (hc : cAt F.code p < 24) : stp F.cl F.code F.rep stk left p asks = .more (stk2.take (topN F stk p) ++ on) (left - priceN (cAt F.code p)) q asks2 := by
  rcases h with ⟨_, rfl, h⟩ | ⟨h, _⟩
  · exact h
  · omega
theorem mid_high {F : Fx} {stk stk2 on : List Nat} {left p q : Nat} {asks asks2 : List Fw.Ask} (h : Mid F stk stk2 on left p q asks asks2) (hc : 24 ≤ cAt F.code p) : asks2.length = asks.length + 1 ∧ stp F.cl F.code F.rep stk left p asks = (if (F.rep asks.length).2 ≠ 0 then .err (F.rep asks.length).2 asks2 else .more (if cAt F.code p = 24 ∨ cAt F.code p = 26 then stk2.take (topN F stk p) ++ [(F.rep asks.length).1] else stk2.take (topN F stk p)) (left - priceN (cAt F.code p)) q asks2) := by
  rcases h with ⟨h, _⟩ | ⟨_, rfl, rfl, rfl, ⟨qq, h1, rfl⟩, h2⟩
  · omega
  · refine ⟨by simp, ?_⟩
    rw [h2, doN, if_neg (by omega), if_neg (by omega), if_neg (by omega), if_neg (by omega), if_neg (by omega), if_neg (by omega), if_neg (by omega), if_neg (by omega), if_neg (by omega), if_neg (by omega), if_neg (by omega), h1]
theorem mid_err {F : Fx} {stk stk2 on : List Nat} {left p q : Nat} {asks asks2 : List Fw.Ask} (h : Mid F stk stk2 on left p q asks asks2) (hc : 24 ≤ cAt F.code p) (he : (F.rep asks.length).2 ≠ 0) : stp F.cl F.code F.rep stk left p asks = .err (F.rep asks.length).2 asks2 := by
  rw [(mid_high h hc).2, if_pos he]
theorem mid_on {F : Fx} {stk stk2 on : List Nat} {left p q : Nat} {asks asks2 : List Fw.Ask} (h : Mid F stk stk2 on left p q asks asks2) (hc : cAt F.code p = 24 ∨ cAt F.code p = 26) (he : (F.rep asks.length).2 = 0) : stp F.cl F.code F.rep stk left p asks = .more (stk2.take (topN F stk p) ++ [(F.rep asks.length).1]) (left - priceN (cAt F.code p)) q asks2 := by
  rw [(mid_high h (by omega)).2, if_neg (by rw [he]; exact fun h => h rfl), if_pos hc]
theorem mid_off {F : Fx} {stk stk2 on : List Nat} {left p q : Nat} {asks asks2 : List Fw.Ask} (h : Mid F stk stk2 on left p q asks asks2) (hc : 24 ≤ cAt F.code p) (hc2 : ¬ (cAt F.code p = 24 ∨ cAt F.code p = 26)) (he : (F.rep asks.length).2 = 0) : stp F.cl F.code F.rep stk left p asks = .more (stk2.take (topN F stk p) ++ on) (left - priceN (cAt F.code p)) q asks2 := by
  have ho : on = [] := by
    rcases h with ⟨h, _⟩ | ⟨_, _, rfl, _⟩
    · omega
    · rfl
  rw [(mid_high h hc).2, if_neg (by rw [he]; exact fun h => h rfl), if_neg hc2, ho, List.append_nil]
section
variable {F : Fx} {stk : List Nat} {left p : Nat} {asks : List Fw.Ask}
theorem do_c {c d b l : Nat} {cl : Cl} {code : List Nat} {rep : Nat → Nat × Int} {st : List Nat} {u : Nat → Nat} (h : c = d) : doN cl code rep c b p l st u asks = doN cl code rep d b p l st u asks := by rw [h]
theorem tk_nil {l : List Nat} : l ++ [] = l := List.append_nil l
theorem mid_push (h : DoAt F stk left p asks) (hc : cAt F.code p = 2) : Mid F stk stk [numB ((F.code.drop (p + 2)).take (sizeN F.code p - 2))] left p (p + sizeN F.code p) asks asks := .inl ⟨by omega, rfl, h.trans (do_c hc)⟩
theorem mid_pop (h : DoAt F stk left p asks) (hc : cAt F.code p = 3) : Mid F stk stk [] left p (p + sizeN F.code p) asks asks := .inl ⟨by omega, rfl, by rw [tk_nil]; exact h.trans (do_c hc)⟩
theorem top_0 (hc : takesN (cAt F.code p) = 0) : stk.take (topN F stk p) = stk := by unfold topN; rw [hc, Nat.sub_zero, List.take_length]
theorem mid_dup (h : DoAt F stk left p asks) (hc : cAt F.code p = 4) {b : Nat} (hb : b = cAt F.code (p + 1)) : Mid F stk stk [stk.getD (stk.length - 1 - b) 0] left p (p + sizeN F.code p) asks asks := .inl ⟨by omega, rfl, by
  have ht : takesN (cAt F.code p) = 0 := by rw [hc]; rfl
  have := h.trans (do_c hc)
  rw [top_0 ht] at this ⊢
  rw [hb]; exact this⟩
theorem swap_len {b : Nat} : (swapN stk b).length = stk.length := by simp [swapN]
theorem mid_swap (h : DoAt F stk left p asks) (hc : cAt F.code p = 5) {b : Nat} (hb : b = cAt F.code (p + 1)) : Mid F stk (swapN stk b) [] left p (p + sizeN F.code p) asks asks := .inl ⟨by omega, rfl, by
  have ht : takesN (cAt F.code p) = 0 := by rw [hc]; rfl
  have := h.trans (do_c hc)
  rw [top_0 ht] at this
  have e : (swapN stk b).take (topN F stk p) = swapN stk b := by
    unfold topN; rw [ht, Nat.sub_zero, ← swap_len (b := b), List.take_length]
  rw [tk_nil, e, hb]; exact this⟩
theorem mid_sum (h : DoAt F stk left p asks) (hc : 6 ≤ cAt F.code p ∧ cAt F.code p ≤ 12) {r : Nat} (hr : arithN (cAt F.code p) (uN F stk p 0) (uN F stk p 1) = some r) : Mid F stk stk [r] left p (p + sizeN F.code p) asks asks := .inl ⟨by omega, rfl, by
  rw [h, doN, if_neg (by omega), if_neg (by omega), if_neg (by omega), if_neg (by omega), if_neg (by omega), if_neg (by omega), if_pos hc.2, hr]⟩
theorem sum_bad (h : DoAt F stk left p asks) (hc : 6 ≤ cAt F.code p ∧ cAt F.code p ≤ 12) (hr : arithN (cAt F.code p) (uN F stk p 0) (uN F stk p 1) = none) : stp F.cl F.code F.rep stk left p asks = .err 104 asks := by
  rw [h, doN, if_neg (by omega), if_neg (by omega), if_neg (by omega), if_neg (by omega), if_neg (by omega), if_neg (by omega), if_pos hc.2, hr]
theorem mid_not (h : DoAt F stk left p asks) (hc : cAt F.code p = 13) : Mid F stk stk [bit1 (decide (uN F stk p 0 = 0))] left p (p + sizeN F.code p) asks asks := .inl ⟨by omega, rfl, h.trans (do_c hc)⟩
theorem mid_jump (h : DoAt F stk left p asks) (hc : cAt F.code p = 14) : Mid F stk stk [] left p (targetN F.code p) asks asks := .inl ⟨by omega, rfl, by rw [tk_nil]; exact h.trans (do_c hc)⟩
theorem mid_whenT (h : DoAt F stk left p asks) (hc : cAt F.code p = 15) (hu : uN F stk p 0 ≠ 0) : Mid F stk stk [] left p (targetN F.code p) asks asks := .inl ⟨by omega, rfl, by
  rw [tk_nil]
  have := h.trans (do_c hc)
  rw [show doN F.cl F.code F.rep 15 (cAt F.code (p + 1)) p (left - priceN (cAt F.code p)) (stk.take (topN F stk p)) (uN F stk p) asks = .more (stk.take (topN F stk p)) (left - priceN (cAt F.code p)) (if uN F stk p 0 ≠ 0 then targetN F.code p else p + sizeN F.code p) asks from rfl, if_pos hu] at this
  exact this⟩
theorem mid_whenF (h : DoAt F stk left p asks) (hc : cAt F.code p = 15) (hu : ¬ uN F stk p 0 ≠ 0) : Mid F stk stk [] left p (p + sizeN F.code p) asks asks := .inl ⟨by omega, rfl, by
  rw [tk_nil]
  have := h.trans (do_c hc)
  rw [show doN F.cl F.code F.rep 15 (cAt F.code (p + 1)) p (left - priceN (cAt F.code p)) (stk.take (topN F stk p)) (uN F stk p) asks = .more (stk.take (topN F stk p)) (left - priceN (cAt F.code p)) (if uN F stk p 0 ≠ 0 then targetN F.code p else p + sizeN F.code p) asks from rfl, if_neg hu] at this
  exact this⟩
theorem told_b {cl : Cl} {c b b2 l : Nat} (h : c = 16 → b = b2) : toldN cl c b l = toldN cl c b2 l := by
  by_cases hc : c = 16
  · rw [h hc]
  · unfold toldN; rw [if_neg hc, if_neg hc]
theorem mid_told (h : DoAt F stk left p asks) (hc : 16 ≤ cAt F.code p ∧ cAt F.code p ≤ 23) {b : Nat} (hb : cAt F.code p = 16 → b = cAt F.code (p + 1)) : Mid F stk stk [toldN F.cl (cAt F.code p) b (left - priceN (cAt F.code p))] left p (p + sizeN F.code p) asks asks := .inl ⟨by omega, rfl, by
  rw [h, doN, if_neg (by omega), if_neg (by omega), if_neg (by omega), if_neg (by omega), if_neg (by omega), if_neg (by omega), if_neg (by omega), if_neg (by omega), if_neg (by omega), if_neg (by omega), if_pos hc.2, told_b hb]⟩
theorem mid_ask (h : DoAt F stk left p asks) (hc : 24 ≤ cAt F.code p) {qq : Fw.Ask} (hq : askN (cAt F.code p) (uN F stk p) = some qq) : Mid F stk stk [] left p (p + sizeN F.code p) asks (asks ++ [qq]) := .inr ⟨hc, rfl, rfl, rfl, ⟨qq, hq, rfl⟩, h⟩
theorem ask_bad (h : DoAt F stk left p asks) (hc : 24 ≤ cAt F.code p) (hq : askN (cAt F.code p) (uN F stk p) = none) : stp F.cl F.code F.rep stk left p asks = .err 104 asks := by
  rw [h, doN, if_neg (by omega), if_neg (by omega), if_neg (by omega), if_neg (by omega), if_neg (by omega), if_neg (by omega), if_neg (by omega), if_neg (by omega), if_neg (by omega), if_neg (by omega), if_neg (by omega), hq]
theorem stop_0 (h : DoAt F stk left p asks) (hc : cAt F.code p = 0) : stp F.cl F.code F.rep stk left p asks = .err 105 asks := h.trans (do_c hc)
theorem done_1 (h : DoAt F stk left p asks) (hc : cAt F.code p = 1) : stp F.cl F.code F.rep stk left p asks = .fin (uN F stk p 0) (left - priceN (cAt F.code p)) asks := h.trans (do_c hc)
theorem ask_24 {u : Nat → Nat} {c : Nat} (h : c = 24) : askN c u = some ⟨1, u 0, 0, 0, 0⟩ := by subst h; rfl
theorem ask_25 {u : Nat → Nat} {c : Nat} (h : c = 25) : askN c u = some ⟨2, u 0, u 1, 0, 0⟩ := by subst h; rfl
theorem ask_26 {u : Nat → Nat} {c : Nat} (h : c = 26) (hu : u 0 < 64) : askN c u = some ⟨3, 0, 0, u 0, u 1⟩ := by
  subst h; unfold askN; rw [if_neg (by decide), if_neg (by decide), if_neg (by omega), if_pos rfl]
theorem ask_27 {u : Nat → Nat} {c : Nat} (h : c = 27) (hu : u 0 < 64) : askN c u = some ⟨4, u 2, 0, u 0, u 1⟩ := by
  subst h; unfold askN; rw [if_neg (by decide), if_neg (by decide), if_neg (by omega), if_neg (by decide)]
theorem ask_no {u : Nat → Nat} {c : Nat} (h : c = 26 ∨ c = 27) (hu : ¬ u 0 < 64) : askN c u = none := by
  unfold askN; rw [if_neg (by omega), if_neg (by omega), if_pos (by omega)]
end
theorem sz_push {xs : List Nat} {p : Nat} (h : sizeN xs p ≠ 0) (hc : cAt xs p = 2) : sizeN xs p = 2 + cAt xs (p + 1) ∧ 1 ≤ cAt xs (p + 1) ∧ cAt xs (p + 1) ≤ 32 := by
  revert h; unfold sizeN
  repeat' split
  all_goals omega
theorem sz_two {xs : List Nat} {p : Nat} (h : sizeN xs p ≠ 0) (hc : cAt xs p = 4 ∨ cAt xs p = 5 ∨ cAt xs p = 16) : sizeN xs p = 2 := by
  revert h; unfold sizeN
  repeat' split
  all_goals omega
theorem sz_three {xs : List Nat} {p : Nat} (h : sizeN xs p ≠ 0) (hc : cAt xs p = 14 ∨ cAt xs p = 15) : sizeN xs p = 3 := by
  revert h; unfold sizeN
  repeat' split
  all_goals omega
theorem bytes_at {xs : List Nat} {p k : Nat} (h : p + k ≤ xs.length) : (List.range k).map (fun i => cAt xs (p + i)) = (xs.drop p).take k := by
  apply List.ext_getElem?
  intro i
  by_cases hi : i < k
  · rw [List.getElem?_take, if_pos hi, List.getElem?_drop, List.getElem?_map, List.getElem?_range hi, List.getElem?_eq_getElem (by omega)]
    simp only [Option.map_some, cAt]
    rw [List.getD_eq_getElem?_getD, List.getElem?_eq_getElem (by omega)]; rfl
  · rw [List.getElem?_eq_none (by simp; omega), List.getElem?_eq_none (by simp; omega)]
theorem number_n (A : Option Addr) (n c : Nat) (xs : List Nat) (w0 : World) (hA : Rd w0 A (ints xs)) (hB : Byt xs) (hl : n ≤ 32) (hn : xs.length = n) : Ret Tryz.prog 29 [.slice A n c] w0 [] (fun v s => v = wv (numB xs) ∧ s = []) := by
  subst hn; exact number_calls A c xs w0 hA hB hl
theorem own_w1 (b x : Nat) : OwnS [(b, Cel (wc x) 32)] (some ⟨b, 0, none⟩) 1 1 ([x].flatMap wc) 32 4 := OwnS.mk (cells := [x].flatMap wc) (rest := []) rfl (by decide) rfl (by decide)
theorem uN_lt {F : Fx} {stk : List Nat} {p : Nat} (h : AllW stk) (i : Nat) : uN F stk p i < 115792089237316195423570985008687907853269984665640564039457584007913129639936 := allW_getD (fun x hx => h x (List.drop_subset _ _ hx)) i
end Go.Proofs.YtlapmbkfmbkdoaaGreatDoor
end
