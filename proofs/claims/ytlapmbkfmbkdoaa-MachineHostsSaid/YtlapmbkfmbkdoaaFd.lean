/- How a play that comes in reads, and how much its lists weigh. No condition beyond each lemma's own. -/
import Derived.Test.YtlapmbkfmbkdoaaFb
import Derived.Test.YtlapmbkfmbkdoaaTa
namespace Go.Proofs.Ytlapmbkfmbkdoaa
open Go Go.Fw Go.ChangeShapes Go.RowKit
def i64OK (n : Int) : Prop := -9223372036854775808 ≤ n ∧ n ≤ 9223372036854775807
theorem wf_i64 {n : Int} (h : (Lit.int .i64 n).wf = true) : i64OK n := by
  have := bounds_i64 h; unfold i64OK; omega
theorem weight_field {H : Type} {P : Program} {t : TypeId} {fs : Array Field} (hu : P.underlying t = some (.struct fs)) {parts : List (DataW H)} (h : ∀ n ∈ (DataW.agg parts).weights P t, n ≤ reachBytes) : (DataW.weightsEach P (fs.toList.map (·.type)) parts).all (· ≤ reachBytes) = true := by
  rw [List.all_eq_true]
  intro n hn
  have := h n (by simpa [DataW.weights, hu] using hn)
  simpa using this
theorem ce28 : Try.prog.cellsOf 28 = 20 := by kernel_rfl
theorem ce34 : Try.prog.cellsOf 34 = 48 := by kernel_rfl
theorem ce37 : Try.prog.cellsOf 37 = 50 := by kernel_rfl
theorem ce48 : Try.prog.cellsOf 48 = 5 := by kernel_rfl
theorem ce24 : Try.prog.cellsOf 24 = 1 := by kernel_rfl
theorem ce32 : Try.prog.cellsOf 32 = 1 := by kernel_rfl
theorem ce35 : Try.prog.cellsOf 35 = 1 := by kernel_rfl
theorem bytes48 : Try.prog.bytesOf 48 = 40 := by kernel_rfl
def repOk (r : Nat × Int) : Prop := r.1 < 115792089237316195423570985008687907853269984665640564039457584007913129639936 ∧ i64OK r.2
theorem reps_of : ∀ els : List (List Value), (∀ l ∈ els, (∃ r : Nat × Int, repOk r ∧ l = repc r) ∧ l.length = 5) → ∃ ps : List (Nat × Int), ps.length = els.length ∧ (∀ r ∈ ps, repOk r) ∧ els.flatten = ps.flatMap repc
  | [], _ => ⟨[], rfl, by intro x hx; simp at hx, rfl⟩
  | l :: els, h => by
    obtain ⟨ps, h1, h2, h3⟩ := reps_of els fun l hl => h l (by simp [hl])
    obtain ⟨⟨p, hp, rfl⟩, _⟩ := h l (by simp)
    refine ⟨p :: ps, by simp [h1], ?_, by rw [List.flatten_cons, h3, List.flatMap_cons]⟩
    intro q hq
    rcases List.mem_cons.1 hq with rfl | hq
    · exact hp
    · exact h2 q hq
theorem len_5 {α : Type} {l : List α} (h : l.length = 5) : ∃ a b c d e, l = [a, b, c, d, e] := by
  match l, h with
  | [a, b, c, d, e], _ => exact ⟨a, b, c, d, e, rfl⟩
section
variable {H : Type} {enc : TypeId × Value → H} {w : World} {base fuel : Nat} {spare : Nat → Bool} {held : Bool} {cs : List Value} {x : DataW H × List MemPlace}
theorem open_reply (h : DataW.trod enc Try.prog w base spare held fuel 48 cs = some x) : ∃ r : Nat × Int, repOk r ∧ cs = repc r := by
  obtain ⟨hl, m, g⟩ := trod_fields Try.underlying48 h
  rw [ce48] at hl
  obtain ⟨a, b, c, d, e, rfl⟩ := len_5 hl
  obtain ⟨y0, g0⟩ := g 0 _ 31 0 rfl rfl rfl
  obtain ⟨y1, g1⟩ := g 1 _ 24 4 rfl rfl rfl
  obtain ⟨n0, w0, e0⟩ := open_wide g0
  obtain ⟨n1, e1, _, w1⟩ := DataW.trod_int Try.underlying24 g1
  simp only [ce24, ce31, List.drop_zero, List.drop_succ_cons, List.take_succ_cons, List.take_zero, List.cons.injEq, and_true] at e0 e1
  subst e1
  obtain ⟨rfl, rfl, rfl, rfl⟩ := e0
  exact ⟨(n0, n1), ⟨w0, wf_i64 w1⟩, rfl⟩
theorem open_replies {A : Option Addr} {len cap : Nat} (h : DataW.trod enc Try.prog w base spare held fuel 35 [.slice A len cap] = some x) : ∃ l : List (Nat × Int), l.length = len ∧ (∀ r ∈ l, repOk r) ∧ Rd w A (l.flatMap repc) ∧ len ≤ cap ∧ cap ≤ 9223372036854775807 := by
  obtain ⟨h1, h2, els, h3, h4, h5⟩ := open_rd (n := 5) (Pp := fun l => ∃ r : Nat × Int, repOk r ∧ l = repc r) Try.underlying35 ce48 (fun fuel cs x h => by
    obtain ⟨n, hn, rfl⟩ := open_reply h
    exact ⟨⟨n, hn, rfl⟩, rfl⟩) h
  obtain ⟨ps, g1, g2, g3⟩ := reps_of els h4
  exact ⟨ps, by rw [g1, h3], g2, g3 ▸ h5, h1, Nat.le_trans h2 (by decide)⟩
theorem open_addr (h : DataW.trod enc Try.prog w base spare held fuel 28 cs = some x) : ∃ f : Nat → Nat, (∀ i, f i < 256) ∧ cs = adc f := by
  obtain ⟨xs, m, rfl, _, hl, hxl, hx⟩ := DataW.trod_array Try.underlying28 h
  rw [ce28] at hl
  simp only [ce5, Nat.mul_one] at hx
  have g : ∀ i, ∃ n : Nat, n < 256 ∧ (i < 20 → cs[i]? = some (.int .u8 (n : Int))) := by
    intro i
    by_cases hi : i < 20
    · have g : DataW.trod enc Try.prog w base spare held m 5 ((cs.drop i).take 1) = some (xs[i]'(by omega)) := by rw [hx i hi]; simp [hxl, hi]
      obtain ⟨n0, e0, _, w0⟩ := DataW.trod_int Try.underlying5 g
      have hb : 0 ≤ n0 ∧ n0 ≤ 255 := by
        simp only [Lit.wf, Bool.and_eq_true, decide_eq_true_eq] at w0
        have h1 : IntKind.u8.min = 0 := rfl
        have h2 : IntKind.u8.max = 255 := rfl
        omega
      refine ⟨n0.toNat, by omega, fun _ => ?_⟩
      rw [Int.toNat_of_nonneg hb.1]
      have : (cs.drop i).take 1 = [cs[i]'(by omega)] := by
        rw [List.drop_eq_getElem_cons (by omega)]; rfl
      rw [this] at e0
      rw [List.getElem?_eq_getElem (by omega)]
      simpa using e0
    · exact ⟨0, by decide, fun h => absurd h hi⟩
  refine ⟨fun i => Classical.choose (g i), fun i => (Classical.choose_spec (g i)).1, ?_⟩
  have hE : ∀ f : Nat → Nat, adc f = (List.range 20).map fun i => Value.int .u8 ((f i : Nat) : Int) := fun f => rfl
  rw [hE]
  refine List.ext_getElem? fun i => ?_
  by_cases hi : i < 20
  · rw [(Classical.choose_spec (g i)).2 hi]
    simp [hi]
  · rw [List.getElem?_eq_none (by omega), List.getElem?_eq_none (by simp; omega)]
end
/-- what is asked of a play that came in -/
structure PlayIn (F : Fx) (w : World) : Prop where
  ok : Fx.Ok0 F
  inner : F.inner = []
  code : Rd w F.cA (byts F.code)
  args : Rd w F.aA (F.cl.args.flatMap wc)
  reps : Rd w F.qA (F.reps.flatMap repc)
  b1 : F.code.length ≤ 140737488351232
  b2 : F.cl.args.length ≤ 4398046510976
  b3 : F.reps.length ≤ 3518437208781
  tok : i64OK F.cl.token
  time : i64OK F.cl.time
  gas : i64OK F.cl.gas
  errs : ∀ r ∈ F.reps, i64OK r.2
theorem slice_of {H : Type} {enc : TypeId × Value → H} {w : World} {base fuel : Nat} {spare : Nat → Bool} {held : Bool} {t e : TypeId} {cs : List Value} {x : DataW H × List MemPlace} (hu : Try.prog.underlying t = some (.slice e)) (h : DataW.trod enc Try.prog w base spare held fuel t cs = some x) : ∃ A len cap, cs = [.slice A len cap] := by
  rcases DataW.trod_slice hu h with ⟨rfl, _⟩ | ⟨a, len, cap, _, _, _, _, rfl, _⟩
  · exact ⟨_, _, _, rfl⟩
  · exact ⟨_, _, _, rfl⟩
theorem play_cells {A B C : Option Addr} {n c n2 c2 n3 c3 : Nat} {f g : Nat → Nat} {tok time gas : Int} {am : Nat} {cs : List Value} (h : cs.length = 50) (h0 : cs.take 1 = [.slice A n c]) (h1 : (cs.drop 1).take 48 = adc f ++ (adc g ++ (.int .i64 tok :: (wc am ++ [.slice B n2 c2, .int .i64 time, .int .i64 gas])))) (h2 : (cs.drop 49).take 1 = [.slice C n3 c3]) :
    cs = .slice A n c :: (adc f ++ (adc g ++ (.int .i64 tok :: (wc am ++ [.slice B n2 c2, .int .i64 time, .int .i64 gas, .slice C n3 c3])))) := by
  have e : cs = cs.take 1 ++ ((cs.drop 1).take 48 ++ (cs.drop 49).take 1) := by
    have e1 : (cs.drop 49).take 1 = cs.drop 49 := List.take_of_length_le (by simp; omega)
    rw [e1]
    have e2 := List.take_append_drop 48 (cs.drop 1)
    rw [List.drop_drop] at e2
    rw [e2]; exact (List.take_append_drop 1 cs).symm
  rw [e, h0, h1, h2]; simp
theorem call_cells {B : Option Addr} {n2 c2 : Nat} {f g : Nat → Nat} {tok time gas : Int} {am : Nat} {cs : List Value} (h : cs.length = 48) (h0 : (cs.drop 0).take 20 = adc f) (h1 : (cs.drop 20).take 20 = adc g) (h2 : (cs.drop 40).take 1 = [.int .i64 tok]) (h3 : (cs.drop 41).take 4 = wc am) (h4 : (cs.drop 45).take 1 = [.slice B n2 c2]) (h5 : (cs.drop 46).take 1 = [.int .i64 time]) (h6 : (cs.drop 47).take 1 = [.int .i64 gas]) :
    cs = adc f ++ (adc g ++ (.int .i64 tok :: (wc am ++ [.slice B n2 c2, .int .i64 time, .int .i64 gas]))) := by
  have e : ∀ a k, cs.drop a = (cs.drop a).take k ++ cs.drop (a + k) := fun a k => by
    have := List.take_append_drop k (cs.drop a)
    rw [List.drop_drop] at this
    exact this.symm
  have e48 : cs.drop 48 = [] := List.drop_of_length_le (by omega)
  have : cs = cs.drop 0 := rfl
  rw [this, e 0 20, h0, e (0 + 20) 20, h1, e (0 + 20 + 20) 1, h2, e (0 + 20 + 20 + 1) 4, h3, e (0 + 20 + 20 + 1 + 4) 1, h4, e (0 + 20 + 20 + 1 + 4 + 1) 1, h5, e (0 + 20 + 20 + 1 + 4 + 1 + 1) 1, h6, e48]
  simp
set_option maxRecDepth 4000 in
theorem open_play {H : Type} {enc : TypeId × Value → H} {w : World} {base fuel : Nat} {held : Bool} {cs : List Value} {d : DataW H} {p : List MemPlace} (h : DataW.trod enc Try.prog w base (fun _ => true) held fuel 37 cs = some (d, p)) (hw : ∀ n ∈ d.weights Try.prog 37, n ≤ reachBytes) :
    ∃ F : Fx, PlayIn F w ∧ cs = plays F := by
  obtain ⟨xs, m, _, hx, hl, hlen, hf⟩ := DataW.trod_struct Try.underlying37 h
  obtain ⟨rfl, rfl⟩ := Prod.mk.inj hx
  rw [ce37] at hl
  have W1 := weight_field Try.underlying37 hw
  have f0 := hf 0 _ rfl
  have f1 := hf 1 _ rfl
  have f2 := hf 2 _ rfl
  have hl3 : xs.length = 3 := hlen
  obtain ⟨x0, x1, x2, rfl⟩ : ∃ x0 x1 x2, xs = [x0, x1, x2] := by
    match xs, hl3 with
    | [a, b, c], _ => exact ⟨a, b, c, rfl⟩
  obtain ⟨d0, p0⟩ := x0
  obtain ⟨d1, p1⟩ := x1
  obtain ⟨d2, p2⟩ := x2
  replace f0 : DataW.trod enc Try.prog w base (fun _ => true) held m 23 ((cs.drop 0).take (Try.prog.cellsOf 23)) = some (d0, p0) := f0
  replace f1 : DataW.trod enc Try.prog w base (fun _ => true) held m 34 ((cs.drop 1).take (Try.prog.cellsOf 34)) = some (d1, p1) := f1
  replace f2 : DataW.trod enc Try.prog w base (fun _ => true) held m 35 ((cs.drop 49).take (Try.prog.cellsOf 35)) = some (d2, p2) := f2
  rw [ce23, List.drop_zero] at f0
  rw [ce34] at f1
  rw [ce35] at f2
  obtain ⟨A, n, c, e0⟩ := slice_of Try.underlying23 f0
  obtain ⟨C, n3, c3, e2⟩ := slice_of Try.underlying35 f2
  rw [e0] at f0
  rw [e2] at f2
  have w0 := slice_weight (j := 0) W1 rfl rfl Try.underlying23 f0
  have w2 := slice_weight (j := 2) W1 rfl rfl Try.underlying35 f2
  rw [bytes5, show reachBytes = 140737488351232 from rfl] at w0
  rw [bytes48, show reachBytes = 140737488351232 from rfl] at w2
  obtain ⟨code, hn, hB, hR, hc, hm⟩ := open_byteL f0
  obtain ⟨reps, hn3, hB3, hR3, hc3, hm3⟩ := open_replies f2
  have W2 : ∀ n ∈ d1.weights Try.prog 34, n ≤ reachBytes := fun n hn => by
    have := List.all_eq_true.1 W1 n (DataW.weights_mem_each (j := 1) (t := 34) (d := d1) rfl rfl n hn)
    simpa using this
  obtain ⟨ys, m', _, hy, hl', hlen', hf'⟩ := DataW.trod_struct Try.underlying34 f1
  obtain ⟨rfl, rfl⟩ := Prod.mk.inj hy
  rw [ce34] at hl'
  have W3 := weight_field Try.underlying34 W2
  have hl7 : ys.length = 7 := hlen'
  obtain ⟨y0, y1, y2, y3, y4, y5, y6, rfl⟩ : ∃ y0 y1 y2 y3 y4 y5 y6, ys = [y0, y1, y2, y3, y4, y5, y6] := by
    match ys, hl7 with
    | [a, b, c, d, e, f, g], _ => exact ⟨a, b, c, d, e, f, g, rfl⟩
  obtain ⟨z4, q4⟩ := y4
  have k0 : DataW.trod enc Try.prog w base (fun _ => true) held m' 28 ((((cs.drop 1).take 48).drop 0).take (Try.prog.cellsOf 28)) = some y0 := hf' 0 _ rfl
  have k1 : DataW.trod enc Try.prog w base (fun _ => true) held m' 28 ((((cs.drop 1).take 48).drop 20).take (Try.prog.cellsOf 28)) = some y1 := hf' 1 _ rfl
  have k2 : DataW.trod enc Try.prog w base (fun _ => true) held m' 3 ((((cs.drop 1).take 48).drop 40).take (Try.prog.cellsOf 3)) = some y2 := hf' 2 _ rfl
  have k3 : DataW.trod enc Try.prog w base (fun _ => true) held m' 31 ((((cs.drop 1).take 48).drop 41).take (Try.prog.cellsOf 31)) = some y3 := hf' 3 _ rfl
  have k4 : DataW.trod enc Try.prog w base (fun _ => true) held m' 32 ((((cs.drop 1).take 48).drop 45).take (Try.prog.cellsOf 32)) = some (z4, q4) := hf' 4 _ rfl
  have k5 : DataW.trod enc Try.prog w base (fun _ => true) held m' 3 ((((cs.drop 1).take 48).drop 46).take (Try.prog.cellsOf 3)) = some y5 := hf' 5 _ rfl
  have k6 : DataW.trod enc Try.prog w base (fun _ => true) held m' 3 ((((cs.drop 1).take 48).drop 47).take (Try.prog.cellsOf 3)) = some y6 := hf' 6 _ rfl
  rw [ce28] at k0 k1
  rw [ce3] at k2 k5 k6
  rw [ce31] at k3
  rw [ce32] at k4
  obtain ⟨fs, hfs, e3⟩ := open_addr k0
  obtain ⟨fc, hfc, e4⟩ := open_addr k1
  obtain ⟨tok, e5, _, wt⟩ := DataW.trod_int Try.underlying3 k2
  obtain ⟨am, ham, e6⟩ := open_wide k3
  obtain ⟨B, n2, c2, e7⟩ := slice_of Try.underlying32 k4
  obtain ⟨time, e8, _, wtm⟩ := DataW.trod_int Try.underlying3 k5
  obtain ⟨gas, e9, _, wg⟩ := DataW.trod_int Try.underlying3 k6
  rw [e7] at k4
  have w4 := slice_weight (j := 4) W3 rfl rfl Try.underlying32 k4
  rw [bytes31, show reachBytes = 140737488351232 from rfl] at w4
  obtain ⟨args, hn2, hB2, hR2, hc2, hm2⟩ := open_wides k4
  have hcall := call_cells (by simp [hl]) e3 e4 e5 e6 e7 e8 e9
  have hall := play_cells hl e0 hcall e2
  subst hn hn2 hn3
  refine ⟨{ rb := 0, hb := 0, cA := A, cc := c, code := code, aA := B, ac := c2, cl := ⟨fs, fc, tok, am, args, time, gas⟩, qA := C, qc := c3, reps := reps, iA := none, ic := 0, inner := [] }, ⟨⟨hB, hc, hm, hB2, hc2, hm2, hfs, hfc, ham, fun r hr => (hB3 r hr).1, by show reps.length ≤ _; omega⟩, rfl, hR, hR2, hR3, by dsimp only; omega, by dsimp only; omega, by dsimp only; omega, wf_i64 wt, wf_i64 wtm, wf_i64 wg, fun r hr => (hB3 r hr).2⟩, ?_⟩
  rw [hall]; rfl
end Go.Proofs.Ytlapmbkfmbkdoaa
