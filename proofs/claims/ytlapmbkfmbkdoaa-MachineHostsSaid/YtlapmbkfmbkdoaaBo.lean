/- A drawn region whose loud operations may come in several orders: a tree of them. No condition beyond each lemma's own. -/
import Derived.Test.YtlapmbkfmbkdoaaD
namespace Go.Fw
inductive Nd
  | leaf (pre : List (Nat × Nat))
  | node (pre : List (Nat × Nat)) (a b : Nd)
def Nd.heads : Nd → List Nat
  | .leaf [] => []
  | .leaf (p :: _) => [p.1]
  | .node [] a b => a.heads ++ b.heads
  | .node (p :: _) _ _ => [p.1]
def WN (P : Program) (ops : Array Oper) (Q : Exit → Act → World → Prop) (S : World → Prop) : Nd → Act → World → Prop
  | .leaf pre => WL P ops Q S (Q .normal) pre
  | .node pre a b => WL P ops Q S (fun x w => WN P ops Q S a x w ∧ WN P ops Q S b x w) pre
/-- the closed check: 'top' tells that the first operation need not be alone -/
def okN (ops : Array Oper) (full : List (Nat × Nat)) : Bool → List Nat → Nd → Bool
  | top, done, .leaf pre => (match top, pre with
      | false, pre => pre.all (fun p => full.contains p) && linOK ops full done pre && Nat.beq (done.length + pre.length) ops.size && (Region.ready .any ops (lst ops.size ((pre.map (·.1)).reverse ++ done))).isEmpty
      | true, [] => false
      | true, (i, c) :: r => Nat.ble 2 c && ((i, c) :: r).all (fun p => full.contains p) && linOK ops full (i :: done) r && Nat.beq (done.length + (r.length + 1)) ops.size && (Region.ready .any ops (lst ops.size ((r.map (·.1)).reverse ++ (i :: done)))).isEmpty)
  | top, done, .node pre a b => (match top, pre with
      | true, [] => okN ops full true done a && okN ops full true done b
      | true, (i, c) :: r => Nat.ble 2 c && ((i, c) :: r).all (fun p => full.contains p) && linOK ops full (i :: done) r && (Region.ready .any ops (lst ops.size ((r.map (·.1)).reverse ++ (i :: done))) == a.heads ++ b.heads) && okN ops full true ((r.map (·.1)).reverse ++ (i :: done)) a && okN ops full true ((r.map (·.1)).reverse ++ (i :: done)) b
      | false, pre => pre.all (fun p => full.contains p) && linOK ops full done pre && (Region.ready .any ops (lst ops.size ((pre.map (·.1)).reverse ++ done)) == a.heads ++ b.heads) && okN ops full true ((pre.map (·.1)).reverse ++ done) a && okN ops full true ((pre.map (·.1)).reverse ++ done) b)
section
variable {P : Program} {ops : Array Oper} {Q : Exit → Act → World → Prop} {S : World → Prop}
/-- what stands behind operation i, whatever comes up next -/
def Beh (P : Program) (ops : Array Oper) (Q : Exit → Act → World → Prop) (S : World → Prop) (full : List (Nat × Nat)) (done : List Nat) (i : Nat) (a : Act) (w : World) : Prop :=
  wpOp P ops Q i (fun a' w' => (isWriter full i = false → S w → S w') ∧ wpW P ops Q S (isWriter full) (ops.size - (done.length + 1)) (lst ops.size (i :: done)) a' w') a w
theorem beh_of {full : List (Nat × Nat)} {K : Act → World → Prop} {i c : Nat} {r : List (Nat × Nat)} {done : List Nat} (hc : 2 ≤ c) (hic : (i, c) ∈ full)
    (hnext : ∀ a w, WL P ops Q S K r a w → wpW P ops Q S (isWriter full) (ops.size - (done.length + 1)) (lst ops.size (i :: done)) a w) {a : Act} {w : World} (h : WL P ops Q S K ((i, c) :: r) a w) : Beh P ops Q S full done i a w := by
  obtain ⟨o, ho, h9⟩ := h
  match c, hc, h9, hic with
  | 2, _, h9, _ => exact wpOp_mono (fun a' w' h' => ⟨fun _ => h'.1, hnext a' w' h'.2⟩) h9
  | c + 3, _, h9, hic =>
    exact wpOp_mono (fun a' w' h' => ⟨fun hWf hSw => by
      have : isWriter full i = true := List.any_eq_true.2 ⟨_, hic, by simp [Nat.ble_eq]⟩
      rw [this] at hWf; simp at hWf, hnext a' w' h'⟩) h9
theorem okN_top {full : List (Nat × Nat)} : ∀ (t : Nd) (done : List Nat), okN ops full true done t = true → done.length + 1 ≤ ops.size ∧ t.heads ≠ []
  | .leaf [], done, h => by simp [okN] at h
  | .leaf ((i, c) :: r), done, h => by
    simp only [okN, Bool.and_eq_true] at h
    have := Nat.eq_of_beq_eq_true h.1.2
    exact ⟨by omega, by simp [Nd.heads]⟩
  | .node [] a b, done, h => by
    simp only [okN, Bool.and_eq_true] at h
    have h1 := okN_top a done h.1
    exact ⟨h1.1, by simp [Nd.heads, h1.2]⟩
  | .node ((i, c) :: r) a b, done, h => by
    simp only [okN, Bool.and_eq_true] at h
    have h1 := okN_top a _ h.1.2
    simp only [List.length_append, List.length_reverse, List.length_map, List.length_cons] at h1
    exact ⟨by omega, by simp [Nd.heads]⟩
/-- at a fork -/
theorem fork {full : List (Nat × Nat)} {done : List Nat} {t u : Nd} {a : Act} {w : World} {m : Nat} (hr : Region.ready .any ops (lst ops.size done) = t.heads ++ u.heads) (hne : t.heads ≠ []) (hm : m = ops.size - done.length) (hlt : done.length + 1 ≤ ops.size)
    (h1 : ∀ i ∈ t.heads, Beh P ops Q S full done i a w) (h2 : ∀ i ∈ u.heads, Beh P ops Q S full done i a w) : wpW P ops Q S (isWriter full) m (lst ops.size done) a w := by
  obtain ⟨k, rfl⟩ : ∃ k, m = k + 1 := ⟨m - 1, by omega⟩
  have hk : k = ops.size - (done.length + 1) := by omega
  refine ⟨fun h0 => ?_, fun i hi => ?_⟩
  · rw [hr] at h0
    exact absurd (List.append_eq_nil_iff.1 h0).1 hne
  · rw [hr] at hi
    subst hk
    rcases List.mem_append.1 hi with hi | hi
    · exact h1 i hi
    · exact h2 i hi
theorem wn_main {full : List (Nat × Nat)} (hsel : Region.noSelect ops = true) (hQ : PanicOk Q) (hnd : full.Pairwise (fun p q => p.1 ≠ q.1)) : ∀ (t : Nd) (done : List Nat) (a : Act) (w : World),
    (okN ops full false done t = true → WN P ops Q S t a w → wpW P ops Q S (isWriter full) (ops.size - done.length) (lst ops.size done) a w) ∧
    (okN ops full true done t = true → WN P ops Q S t a w → ∀ i ∈ t.heads, Beh P ops Q S full done i a w) := by
  intro t
  induction t with
  | leaf pre =>
    intro done a w
    refine ⟨fun h hw => ?_, fun h hw => ?_⟩
    · simp only [okN, Bool.and_eq_true] at h
      obtain ⟨⟨⟨g1, g2⟩, g3⟩, g4⟩ := h
      have e := Nat.eq_of_beq_eq_true g3
      have := wpW_of_WL (P := P) (Q := Q) (S := S) full hsel hQ hnd pre 0 done a w (fun p hp => by simpa using List.all_eq_true.1 g1 p hp) g2 (fun a w hk => ⟨by simpa using g4, hk⟩) hw
      rw [show ops.size - done.length = pre.length + 0 from by omega]
      exact this
    · cases pre with
      | nil => simp [okN] at h
      | cons p r =>
        obtain ⟨i, c⟩ := p
        simp only [okN, Bool.and_eq_true] at h
        obtain ⟨⟨⟨⟨g0, g1⟩, g2⟩, g3⟩, g4⟩ := h
        have e := Nat.eq_of_beq_eq_true g3
        have hmem : ∀ p ∈ (i, c) :: r, p ∈ full := fun p hp => by simpa using List.all_eq_true.1 g1 p hp
        intro i' hi'
        simp only [Nd.heads, List.mem_singleton] at hi'
        subst hi'
        refine beh_of (Nat.le_of_ble_eq_true g0) (hmem _ (by simp)) (fun a w hr => ?_) hw
        have := wpW_of_WL (P := P) (Q := Q) (S := S) full hsel hQ hnd r 0 (i' :: done) a w (fun p hp => hmem p (by simp [hp])) g2 (fun a w hk => ⟨by simpa using g4, hk⟩) hr
        rw [show ops.size - (done.length + 1) = r.length + 0 from by omega]
        exact this
  | node pre t u iht ihu =>
    intro done a w
    refine ⟨fun h hw => ?_, fun h hw => ?_⟩
    · simp only [okN, Bool.and_eq_true] at h
      obtain ⟨⟨⟨⟨g1, g2⟩, g3⟩, g4⟩, g5⟩ := h
      have k4 := okN_top t _ g4
      simp only [List.length_append, List.length_reverse, List.length_map] at k4
      have := wpW_of_WL (P := P) (Q := Q) (S := S) full hsel hQ hnd pre (ops.size - (pre.length + done.length)) done a w (fun p hp => by simpa using List.all_eq_true.1 g1 p hp) g2
        (fun a w hk => fork (by simpa using g3) k4.2 (by simp) (by simpa using k4.1) ((iht _ a w).2 g4 hk.1) ((ihu _ a w).2 g5 hk.2)) hw
      rw [show ops.size - done.length = pre.length + (ops.size - (pre.length + done.length)) from by omega]
      exact this
    · cases pre with
      | nil =>
        simp only [okN, Bool.and_eq_true] at h
        intro i hi
        simp only [Nd.heads, List.mem_append] at hi
        have hw' : WN P ops Q S t a w ∧ WN P ops Q S u a w := hw
        rcases hi with hi | hi
        · exact (iht done a w).2 h.1 hw'.1 i hi
        · exact (ihu done a w).2 h.2 hw'.2 i hi
      | cons p r =>
        obtain ⟨i, c⟩ := p
        simp only [okN, Bool.and_eq_true] at h
        obtain ⟨⟨⟨⟨⟨g0, g1⟩, g2⟩, g3⟩, g4⟩, g5⟩ := h
        have k4 := okN_top t _ g4
        simp only [List.length_append, List.length_reverse, List.length_map, List.length_cons] at k4
        have hmem : ∀ p ∈ (i, c) :: r, p ∈ full := fun p hp => by simpa using List.all_eq_true.1 g1 p hp
        intro i' hi'
        simp only [Nd.heads, List.mem_singleton] at hi'
        subst hi'
        refine beh_of (Nat.le_of_ble_eq_true g0) (hmem _ (by simp)) (fun a w hr => ?_) hw
        have := wpW_of_WL (P := P) (Q := Q) (S := S) full hsel hQ hnd r (ops.size - (r.length + (done.length + 1))) (i' :: done) a w (fun p hp => hmem p (by simp [hp])) g2
          (fun a w hk => fork (by simpa using g3) k4.2 (by simp) (by simpa using k4.1) ((iht _ a w).2 g4 hk.1) ((ihu _ a w).2 g5 hk.2)) hr
        rw [show ops.size - (done.length + 1) = r.length + (ops.size - (r.length + (done.length + 1))) from by omega]
        exact this
def drawOKN (ops : Array Oper) (full : List (Nat × Nat)) (t : Nd) : Bool := Region.noSelect ops && allDiff (full.map (·.1)) && okN ops full false [] t
/-- A region that draws its order, walked along a tree of orders. -/
theorem wp_drawN {id : Nat} {a : Act} {w w0 : World} {ks : List Nat} {bs bd : List Seg} (hS : St w0 ks bs w) (hD : St w0 ks bd w) (full : List (Nat × Nat)) (t : Nd) (hm : P.follows .mixedOrders = true) (hc : drawOKN ops full t = true) (hQ : PanicOk Q)
    (h : ∀ w, St w0 ks bs w → St w0 ks bd w → WN P ops Q (St w0 ks bd) t a w) : (Code.region id ops true).wp P Q a w := by
  simp only [drawOKN, Bool.and_eq_true] at hc
  obtain ⟨⟨h1, h2⟩, h3⟩ := hc
  refine wp_region_any hm (wpAny_of_wpW (S := St w0 ks bd) (W := isWriter full) _ _ _ _ ?_)
  exact (wn_main h1 hQ (allDiff_spec h2) t [] a w.drew).1 h3 (h _ hS.drew hD.drew)
theorem nd0 {a : Act} {w : World} {t u : Nd} (h : WN P ops Q S t a w ∧ WN P ops Q S u a w) : WN P ops Q S (.node [] t u) a w := h
end
end Go.Fw
