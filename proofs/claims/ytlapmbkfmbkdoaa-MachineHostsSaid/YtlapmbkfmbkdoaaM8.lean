/- Texts Do Dp Dq in one. -/
import Derived.Test.YtlapmbkfmbkdoaaM7
/- What the host does with a question. -/
namespace Go.Proofs.Ytlapmbkfmbkdoaa
open Go Go.Fw Go.RowKit
attribute [local irreducible] Go.Oper.wp Go.Code.wp Go.wpList Go.Fw.WL Go.Calls
def _root_.Go.Fw.Fx.rep (F : Fx) (k : Nat) : Nat × Int := F.reps.getD k (0, 0)
theorem HostS.close {w0 w : World} {ks : List Nat} {F : Fx} {asks : List Fw.Ask} {sg : Seg} {A : Option Addr} {c n : Nat} (hS : St w0 ks [[(F.hb, Cel (hcells F (.slice A n c)) 55)], sg] w) (hn : n = asks.length) (hO : OwnS sg A n c (asks.flatMap askc) 72 30) : ∃ s', HostS F asks s' ∧ St w0 ks [s'] w := by
  subst hn
  exact ⟨_, ⟨A, c, sg, rfl, hO⟩, hS.flat (by simp)⟩
theorem own_ask {s : Seg} {A : Option Addr} {c : Nat} {q : Fw.Ask} {b : List Fw.Ask} (h : OwnS s A (b.length + 1) c (b.flatMap askc ++ askc q) 72 30) : OwnS s A (b.length + 1) c ((b ++ [q]).flatMap askc) 72 30 := by
  rw [List.flatMap_append, List.flatMap_singleton]; exact h
theorem reps_length (l : List (Nat × Int)) : (l.flatMap repc).length = l.length * 5 := by
  induction l with
  | nil => rfl
  | cons x l ih =>
    rw [List.flatMap_cons, List.length_append, ih, List.length_cons, show (repc x).length = 5 from rfl, Nat.add_mul]
    omega
theorem reps_at {l : List (Nat × Int)} {k off : Nat} (hk : k < l.length) (ho : off = k * 5) : ∀ j v, (repc (l.getD k (0, 0)))[j]? = some v → (l.flatMap repc)[off + j]? = some v := by
  subst ho
  induction l generalizing k with
  | nil => simp at hk
  | cons x l ih =>
    intro j v hj
    have h5 : (repc x).length = 5 := rfl
    cases k with
    | zero =>
      rw [List.flatMap_cons, Nat.zero_mul, Nat.zero_add, List.getElem?_append_left]
      · exact hj
      · rcases Nat.lt_or_ge j (repc x).length with h | h
        · exact h
        · rw [show ((x :: l).getD 0 (0, 0)) = x from rfl, List.getElem?_eq_none h] at hj; simp at hj
    | succ k =>
      rw [List.flatMap_cons, List.getElem?_append_right (by rw [h5]; omega), h5, show (k + 1) * 5 + j - 5 = k * 5 + j by omega]
      exact ih (by simpa using hk) j v (by simpa using hj)
theorem one_repc (r : Nat × Int) : ∀ v ∈ repc r, v.oneCell' = true := by simp [repc, Value.oneCell']
theorem rep_lt {F : Fx} {k : Nat} (h : k < F.reps.length) : F.rep k = F.reps.getD k (0, 0) := rfl
theorem rep_ge {F : Fx} {k : Nat} (h : F.reps.length ≤ k) : F.rep k = (0, 0) := by
  rw [Fx.rep, List.getD_eq_getElem?_getD, List.getElem?_eq_none h]; rfl
/-- the host notes what it is asked and answers by its replies -/
def NextOK (F : Fx) : Prop := ∀ (asks : List Fw.Ask) (q : Fw.Ask) (s : Seg) (w0 : World), HostS F asks s → Own w0 s → RdK w0 (s.map (·.1)) F.qA (F.reps.flatMap repc) → RdK w0 (s.map (·.1)) F.iA (byts F.inner) → asks.length ≤ 20000 →
  Ret Try.prog 120 [.pointer (some ⟨F.hb, 0, none⟩), .agg (askc q).toArray] w0 (s.map (·.1)) (fun v s' => v = .tuple #[wv (F.rep asks.length).1, .int .i64 (F.rep asks.length).2] ∧ HostS F (asks ++ [q]) s')

set_option maxHeartbeats 2000000 in
theorem next_0 (F : Fx) (asks : List Fw.Ask) (q : Fw.Ask) (s : Seg) (w0 : World) (hH : HostS F asks s) (ho : Own w0 s) (hQ : RdK w0 (s.map (·.1)) F.qA (F.reps.flatMap repc)) (hl : asks.length ≤ 20000) (hi0 : F.inner.length = 0) : Ret Try.prog 120 [.pointer (some ⟨F.hb, 0, none⟩), .agg (askc q).toArray] w0 (s.map (·.1)) (fun v s' => v = .tuple #[wv (F.rep asks.length).1, .int .i64 (F.rep asks.length).2] ∧ HostS F (asks ++ [q]) s') := by
  refine fn_start Try.func120 rfl Try.ntmps120 rfl [(0, .pointer (some ⟨F.hb, 0, none⟩)), (1, .agg (askc q).toArray)] ⟨rfl, rfl, trivial⟩ ?_
  intro Q a hP hF hR hN
  have hS := St.enter ho
  obtain ⟨A, c, hg, hs, hO⟩ := hH; have hS := hS.flat (bs' := [[(F.hb, Cel (hcells F (.slice A asks.length c)) 55)], hg]) (by simp [hs])
  refine wp_seq_k fun K1 hK1 => ?_
  refine wp_region_lit ?_
  refine so (wn rfl) (O.box rfl rfl hF (hF.ev rfl) rfl hS fun b3 a w hF hS => ?_)
  refine so (wn rfl) (O.alloc rfl rfl hF ze31 rfl hS fun b4 a w hF hS => ?_)
  refine sv' hF (wn rfl) rfl rfl (R.assign (hF.ev rfl)) fun a hF => ?_
  refine s0 ?_
  refine then_n (hK1 _ _ ?_)
  refine wp_seq_k fun K2 hK2 => ?_
  refine wp_drawG hS (hS.sel [1, 2] rfl rfl) [(0, 0), (1, 0), (2, 0), (3, 0), (4, 1), (5, 1), (6, 2), (7, 2), (8, 0), (9, 0), (10, 3)] mix (by kernel_rfl) (hP.then) fun w hS hD => ?_
  refine dq hF rfl (wn rfl) rfl rfl (fun w => R.move (hF.ev rfl)) fun a hF => ?_
  refine dq hF rfl (wn rfl) rfl rfl (fun w => R.move (hF.ev rfl)) fun a hF => ?_
  refine dq hF rfl (wn rfl) rfl rfl (fun w => R.nilCheck (hF.ev rfl)) fun a hF => ?_
  refine dq hF rfl (wn rfl) rfl rfl (fun w => R.fieldAddr (k := 1) Try.underlying55 rfl nz40 (hF.ev rfl) rfl) fun a hF => ?_
  refine dr hF rfl (wn rfl) rfl rfl hD (fun w hD => R.load one40 (hF.ev rfl) hD (.t .h) (rfl)) fun a hF => ?_
  refine dr hF rfl (wn rfl) rfl rfl hD (fun w hD => R.loadW agg72 (hF.ev rfl) hD .h sz72 (rfl)) fun a hF => ?_
  refine dl rfl (wn rfl) (O.buildSlice (l := [_, _, _, _, _, _, _, _, _, _, _, _, _, _, _, _, _, _, _, _, _, _, _, _, _, _, _, _, _, _]) rfl rfl hF Try.underlying40 inf72 rfl rfl (hF.evp rfl) (by decide) rfl hS fun b14 a w hF hS => ⟨fun hD => hS.sel [2, 3] rfl rfl, ?_⟩)
  have hD := hS.sel [2, 3] rfl rfl
  refine dl rfl (wn rfl) (O.append rfl rfl hF Try.underlying40 inf72 rfl rfl (by decide) (hF.ev rfl) (hF.ev rfl) hS hO (fun _ => (.t (.t (.t (.t .h))))) (Rd.own0 hS .h) (rfl) (by simp [Value.oneCell']) (by unfold maxLen; omega) (by omega) fun A15 c15 s15 a w hO15 hF hS => ⟨fun hD => hS.sel [2, 3] rfl rfl, ?_⟩)
  have hD := hS.sel [2, 3] rfl rfl
  refine dq hF rfl (wn rfl) rfl rfl (fun w => R.nilCheck (hF.ev rfl)) fun a hF => ?_
  refine dq hF rfl (wn rfl) rfl rfl (fun w => R.fieldAddr (k := 1) Try.underlying55 rfl nz40 (hF.ev rfl) rfl) fun a hF => ?_
  refine dw rfl (wn rfl) (O.store sz40 (hF.ev rfl) (hF.ev rfl) rfl rfl hS (.t (.t (.t .h))) (show List.set _ _ _ = hcells F (.slice A15 (asks.length + 1) c15) from rfl) (by first | decide | omega | (show _ < 59; decide) | (show _ < 3; decide) | simp) fun w hS => ?_)
  refine d0 ?_
  refine then_n (hK2 _ _ ?_)
  refine wp_seq_k fun K3 hK3 => ?_
  refine wp_seq_k fun K4 hK4 => ?_
  refine wp_region_lit ?_
  refine sv' hF (wn rfl) rfl rfl (R.move (hF.ev rfl)) fun a hF => ?_
  refine sv' hF (wn rfl) rfl rfl (R.nilCheck (hF.ev rfl)) fun a hF => ?_
  refine sv' hF (wn rfl) rfl rfl (R.fieldAddr (k := 2) Try.underlying55 rfl nz23 (hF.ev rfl) rfl) fun a hF => ?_
  refine sv' hF (wn rfl) rfl rfl (R.load one23 (hF.ev rfl) hS (.t (.t (.t .h))) (rfl)) fun a hF => ?_
  refine sv' hF (wn rfl) rfl rfl (R.len Try.underlying23 (hF.ev rfl)) fun a hF => ?_
  refine sv' hF (wn rfl) rfl rfl (R.gtr (hF.ev rfl) (hF.ev rfl)) fun a hF => ?_
  refine s0 ?_
  refine then_n (hK4 _ _ ?_)
  refine cD hF rfl (fun c1 => ?_) (fun c1 => ?_)
  ·
    exact absurd c1 (by omega)
  ·
    refine wp_skip ?_
    refine then_n (hK3 _ _ ?_)
    refine wp_seq_k fun K5 hK5 => ?_
    refine wp_seq_k fun K6 hK6 => ?_
    refine wp_drawS hS [(0, 0), (1, 0), (2, 0), (3, 1), (4, 0), (5, 0), (6, 0), (7, 0), (8, 1), (9, 0), (10, 0)] mix (by kernel_rfl) (hP.then.then) fun w hS => ?_
    have hD := hS
    refine dq hF rfl (wn rfl) rfl rfl (fun w => R.move (hF.ev rfl)) fun a hF => ?_
    refine dq hF rfl (wn rfl) rfl rfl (fun w => R.nilCheck (hF.ev rfl)) fun a hF => ?_
    refine dq hF rfl (wn rfl) rfl rfl (fun w => R.fieldAddr (k := 1) Try.underlying55 rfl nz40 (hF.ev rfl) rfl) fun a hF => ?_
    refine dr hF rfl (wn rfl) rfl rfl hD (fun w hD => R.load one40 (hF.ev rfl) hD (.t (.t (.t .h))) (rfl)) fun a hF => ?_
    refine dq hF rfl (wn rfl) rfl rfl (fun w => R.len Try.underlying40 (hF.ev rfl)) fun a hF => ?_
    refine dq hF rfl (wn rfl) rfl rfl (fun w => R.move (hF.ev rfl)) fun a hF => ?_
    refine dq hF rfl (wn rfl) rfl rfl (fun w => R.nilCheck (hF.ev rfl)) fun a hF => ?_
    refine dq hF rfl (wn rfl) rfl rfl (fun w => R.fieldAddr (k := 0) Try.underlying55 rfl nz35 (hF.ev rfl) rfl) fun a hF => ?_
    refine dr hF rfl (wn rfl) rfl rfl hD (fun w hD => R.load one35 (hF.ev rfl) hD (.t (.t (.t .h))) (rfl)) fun a hF => ?_
    refine dq hF rfl (wn rfl) rfl rfl (fun w => R.len Try.underlying35 (hF.ev rfl)) fun a hF => ?_
    refine dq hF rfl (wn rfl) rfl rfl (fun w => R.leq (hF.ev rfl) (hF.ev rfl)) fun a hF => ?_
    refine d0 ?_
    refine then_n (hK6 _ _ ?_)
    refine cD hF rfl (fun c2 => ?_) (fun c2 => ?_)
    ·
      refine wp_seq_k fun K7 hK7 => ?_
      refine wp_drawS hS [(0, 0), (1, 0), (2, 0), (3, 1), (4, 0), (5, 0), (6, 0), (7, 1), (8, 0), (9, 0), (10, 0), (11, 1), (12, 2), (13, 3)] mix (by kernel_rfl) (hP.then.then) fun w hS => ?_
      have hD := hS
      refine dq hF rfl (wn rfl) rfl rfl (fun w => R.move (hF.ev rfl)) fun a hF => ?_
      refine dq hF rfl (wn rfl) rfl rfl (fun w => R.nilCheck (hF.ev rfl)) fun a hF => ?_
      refine dq hF rfl (wn rfl) rfl rfl (fun w => R.fieldAddr (k := 0) Try.underlying55 rfl nz35 (hF.ev rfl) rfl) fun a hF => ?_
      refine dr hF rfl (wn rfl) rfl rfl hD (fun w hD => R.load one35 (hF.ev rfl) hD (.t (.t (.t .h))) (rfl)) fun a hF => ?_
      refine dq hF rfl (wn rfl) rfl rfl (fun w => R.move (hF.ev rfl)) fun a hF => ?_
      refine dq hF rfl (wn rfl) rfl rfl (fun w => R.nilCheck (hF.ev rfl)) fun a hF => ?_
      refine dq hF rfl (wn rfl) rfl rfl (fun w => R.fieldAddr (k := 1) Try.underlying55 rfl nz40 (hF.ev rfl) rfl) fun a hF => ?_
      refine dr hF rfl (wn rfl) rfl rfl hD (fun w hD => R.load one40 (hF.ev rfl) hD (.t (.t (.t .h))) (rfl)) fun a hF => ?_
      refine dq hF rfl (wn rfl) rfl rfl (fun w => R.len Try.underlying40 (hF.ev rfl)) fun a hF => ?_
      refine dq hF rfl (wn rfl) rfl rfl (fun w => R.subI (hF.ev rfl) (hF.ev rfl) (by omega)) fun a hF => ?_
      refine dq hF rfl (wn rfl) rfl rfl (fun w => R.indexO Try.underlying35 sz48 (hF.ev rfl) (Rd.ne (hQ.old hS) (by rw [reps_length]; omega)) (hF.ev rfl) (by omega) (by omega)) fun a hF => ?_
      refine dr hF rfl (wn rfl) rfl rfl hD (fun w hD => R.loadAO (cs := repc (F.reps.getD asks.length (0, 0))) agg48 (hF.ev rfl) (hQ.old hD) sz48 rfl (Nat.succ_pos _) (reps_at (k := asks.length) (by omega) (by omega))) fun a hF => ?_
      refine dl rfl (wn rfl) (O.alloc rfl rfl hF ze48 rfl hS fun b7 a w hF hS => ⟨fun hD => hS.tail, ?_⟩)
      have hD := hS.tail
      refine dw rfl (wn rfl) (O.storeW sz48 (hF.ev rfl) (hF.ev rfl) (rfl) rfl (one_repc _) hS .h (rfl) fun w hS => ?_)
      refine d0 ?_
      refine then_n (hK7 _ _ ?_)
      refine wp_seq_k fun K8 hK8 => ?_
      refine wp_drawG hS (hS.sel [0] rfl rfl) [(0, 0), (1, 1), (2, 0), (3, 1), (4, 2), (5, 0)] mix (by kernel_rfl) (hP.then.then) fun w hS hD => ?_
      refine dq hF rfl (wn rfl) rfl rfl (fun w => R.fieldAddr (k := 0) Try.underlying48 rfl nz31 (hF.ev rfl) rfl) fun a hF => ?_
      refine dr hF rfl (wn rfl) rfl rfl hD (fun w hD => R.loadA (cs := [_, _, _, _]) agg31 (hF.ev rfl) hD .h sz31 rfl (getAt rfl)) fun a hF => ?_
      refine dq hF rfl (wn rfl) rfl rfl (fun w => R.fieldAddr (k := 4) Try.underlying48 rfl nz24 (hF.ev rfl) rfl) fun a hF => ?_
      refine dr hF rfl (wn rfl) rfl rfl hD (fun w hD => R.load one24 (hF.ev rfl) hD .h (rfl)) fun a hF => ?_
      refine dl rfl (wn rfl) (O.storeW sz31 (hF.ev rfl) (hF.ev rfl) (rfl) rfl (by simp [Value.oneCell']) hS (.t (.t .h)) (rfl) fun w hS => ⟨fun hD => hS.sel [0] rfl rfl, ?_⟩)
      have hD := hS.sel [0] rfl rfl
      refine dq hF rfl (wn rfl) rfl rfl (fun w => R.assign (hF.ev rfl)) fun a hF => ?_
      refine d0 ?_
      refine then_n (hK8 _ _ ?_)
      refine wp_ret (then_r (hR _ _ _ _ _ hF (run_results Try.results120 (.cw hF rfl agg31 hS (.t (.t .h)) sz31 (rfl) (.t hF rfl (.nil)))) ?_))
      obtain ⟨s', h1, h2⟩ := HostS.close (F := F) (asks := asks ++ [q]) (hS.sel [4, 5] rfl rfl) (by simp) (own_ask hO15)
      exact ⟨_, s', rfl, ⟨by rw [rep_lt (k := asks.length) (by omega)]; rfl, h1⟩, h2⟩
    ·
      refine wp_skip ?_
      refine then_n (hK5 _ _ ?_)
      refine wp_seq_k fun K9 hK9 => ?_
      refine wp_region_lit ?_
      refine sv' hF (wn rfl) rfl rfl (R.buildArr (l := [_, _, _, _]) Try.underlying31 ze31 sz29 (hF.evp rfl) rfl) fun a hF => ?_
      refine so (wn rfl) (O.storeW sz31 (hF.ev rfl) (hF.ev rfl) (rfl) rfl (by simp [Value.oneCell']) hS (.t .h) (rfl) fun w hS => ?_)
      refine sv' hF (wn rfl) rfl rfl (R.assign (hF.ev rfl)) fun a hF => ?_
      refine s0 ?_
      refine then_n (hK9 _ _ ?_)
      refine wp_ret (hR _ _ _ _ _ hF (run_results Try.results120 (.cw hF rfl agg31 hS (.t .h) sz31 (rfl) (.t hF rfl (.nil)))) ?_)
      obtain ⟨s', h1, h2⟩ := HostS.close (F := F) (asks := asks ++ [q]) (hS.sel [3, 4] rfl rfl) (by simp) (own_ask hO15)
      exact ⟨_, s', rfl, ⟨by rw [rep_ge (k := asks.length) (by omega)]; rfl, h1⟩, h2⟩

end Go.Proofs.Ytlapmbkfmbkdoaa

/- The host's methods. -/
namespace Go.Proofs.Ytlapmbkfmbkdoaa
open Go Go.Fw Go.RowKit
attribute [local irreducible] Go.Oper.wp Go.Code.wp Go.wpList Go.Fw.WL Go.Calls
theorem meth_load (hb : Nat) : ∀ w, (method (Try.prog.types.size + Made.depth) 53 (.pointer (some ⟨hb, 0, none⟩)) "Load").run Try.prog w = .ok (117, .pointer (some ⟨hb, 0, none⟩)) w := fun w => by kernel_rfl
theorem meth_save (hb : Nat) : ∀ w, (method (Try.prog.types.size + Made.depth) 53 (.pointer (some ⟨hb, 0, none⟩)) "Save").run Try.prog w = .ok (118, .pointer (some ⟨hb, 0, none⟩)) w := fun w => by kernel_rfl
theorem meth_have (hb : Nat) : ∀ w, (method (Try.prog.types.size + Made.depth) 53 (.pointer (some ⟨hb, 0, none⟩)) "Have").run Try.prog w = .ok (116, .pointer (some ⟨hb, 0, none⟩)) w := fun w => by kernel_rfl
theorem meth_send (hb : Nat) : ∀ w, (method (Try.prog.types.size + Made.depth) 53 (.pointer (some ⟨hb, 0, none⟩)) "Send").run Try.prog w = .ok (119, .pointer (some ⟨hb, 0, none⟩)) w := fun w => by kernel_rfl
theorem R.nilCheckI {P : Program} {w : World} {ρ : Operand → Value} {dst : Option Tmp} {ty : TypeId} {pos : String} {af : Array Edge} {g : Option (Nat × Bool)} {x : Operand} {t : TypeId} {u : Value} (hx : ρ x = .iface t u) : (execOp ρ ⟨dst, .nilCheck x, ty, pos, af, g⟩).run P w = .ok (.value (.iface t u)) w := by
  simp only [execOp, hx, Sem.run_pure]
def DidH (F : Fx) (V : Vr) (stk : List Nat) (asks : List Fw.Ask) (v : Value) (s' : Seg) : Prop := v = .int .i64 0 ∧ ∃ s1 s2, s' = s1 ++ s2 ∧ RunS F V stk s1 ∧ HostS F asks s2
def ErrH (F : Fx) (asks : List Fw.Ask) (e : Int) (v : Value) (s' : Seg) : Prop := v = .int .i64 e ∧ ∃ s1 s2, s' = s1 ++ s2 ∧ HostS F asks s2

theorem load_calls (F : Fx) (asks : List Fw.Ask) (s : Seg) (n : Nat) (w0 : World) (hNX : NextOK F) (hH : HostS F asks s) (ho : Own w0 s) (hQ : RdK w0 (s.map (·.1)) F.qA (F.reps.flatMap repc)) (hI : RdK w0 (s.map (·.1)) F.iA (byts F.inner)) (hl : asks.length ≤ 20000) : Ret Try.prog 117 [.pointer (some ⟨F.hb, 0, none⟩), wv n] w0 (s.map (·.1)) (fun v s' => v = .tuple #[wv (F.rep asks.length).1, .int .i64 (F.rep asks.length).2] ∧ HostS F (asks ++ [⟨1, n, 0, 0, 0⟩]) s') := by
  refine fn_start Try.func117 rfl Try.ntmps117 rfl [(0, .pointer (some ⟨F.hb, 0, none⟩)), (1, wv n)] ⟨rfl, rfl, trivial⟩ ?_
  intro Q a hP hF hR hN
  have hS := St.enter ho
  refine wp_seq_k fun K1 hK1 => ?_
  refine wp_region_lit ?_
  refine so (wn rfl) (O.box rfl rfl hF (hF.ev rfl) rfl hS fun b3 a w hF hS => ?_)
  refine so (wn rfl) (O.alloc rfl rfl hF ze31 rfl hS fun b4 a w hF hS => ?_)
  refine sv' hF (wn rfl) rfl rfl (R.assign (hF.ev rfl)) fun a hF => ?_
  refine s0 ?_
  refine then_n (hK1 _ _ ?_)
  refine wp_seq_k fun K2 hK2 => ?_
  refine wp_region_lit ?_
  refine sv' hF (wn rfl) rfl rfl (R.move (hF.ev rfl)) fun a hF => ?_
  refine sv' hF (wn rfl) rfl rfl (R.loadW agg31 (hF.ev rfl) hS (.t .h) sz31 (rfl)) fun a hF => ?_
  refine sv' hF (wn rfl) rfl rfl (R.buildStr (l := askc ⟨1, n, 0, 0, 0⟩) Try.underlying72 ze72 pl72 (hF.evp rfl) (by kernel_rfl)) fun a hF => ?_
  refine so (wn rfl) (O.callK rfl rfl hF ent120 (hF.evs rfl) hS (hNX asks ⟨1, n, 0, 0, 0⟩ _ _ hH (hS.own1 (.t (.t .h))) (hQ.down hS (.t (.t .h))) (hI.down hS (.t (.t .h))) hl) (fun _ => (.t (.t .h))) fun v s9 a w hR hF hS => ?_)
  obtain ⟨rfl, hH2⟩ := hR
  refine sv' hF (wn rfl) rfl rfl (R.extract (hF.ev rfl) rfl) fun a hF => ?_
  refine sv' hF (wn rfl) rfl rfl (R.extract (hF.ev rfl) rfl) fun a hF => ?_
  refine so (wn rfl) (O.storeW sz31 (hF.ev rfl) (hF.ev rfl) (rfl) rfl (by simp [Value.oneCell']) hS .h (rfl) fun w hS => ?_)
  refine sv' hF (wn rfl) rfl rfl (R.assign (hF.ev rfl)) fun a hF => ?_
  refine s0 ?_
  refine then_n (hK2 _ _ ?_)
  refine wp_ret (hR _ _ _ _ _ hF (run_results Try.results117 (.cw hF rfl agg31 hS .h sz31 (rfl) (.t hF rfl (.nil)))) ?_)
  exact ⟨_, s9, rfl, ⟨rfl, hH2⟩, hS.one (.t (.t .h))⟩

theorem save_calls (F : Fx) (asks : List Fw.Ask) (s : Seg) (n m : Nat) (w0 : World) (hNX : NextOK F) (hH : HostS F asks s) (ho : Own w0 s) (hQ : RdK w0 (s.map (·.1)) F.qA (F.reps.flatMap repc)) (hI : RdK w0 (s.map (·.1)) F.iA (byts F.inner)) (hl : asks.length ≤ 20000) : Ret Try.prog 118 [.pointer (some ⟨F.hb, 0, none⟩), wv n, wv m] w0 (s.map (·.1)) (fun v s' => v = .int .i64 (F.rep asks.length).2 ∧ HostS F (asks ++ [⟨2, n, m, 0, 0⟩]) s') := by
  refine fn_start Try.func118 rfl Try.ntmps118 rfl [(0, .pointer (some ⟨F.hb, 0, none⟩)), (1, wv n), (2, wv m)] ⟨rfl, rfl, rfl, trivial⟩ ?_
  intro Q a hP hF hR hN
  have hS := St.enter ho
  refine wp_seq_k fun K1 hK1 => ?_
  refine wp_region_lit ?_
  refine so (wn rfl) (O.box rfl rfl hF (hF.ev rfl) rfl hS fun b4 a w hF hS => ?_)
  refine so (wn rfl) (O.box rfl rfl hF (hF.ev rfl) rfl hS fun b5 a w hF hS => ?_)
  refine sv' hF (wn rfl) rfl rfl (R.assign (hF.ev rfl)) fun a hF => ?_
  refine s0 ?_
  refine then_n (hK1 _ _ ?_)
  refine wp_seq_k fun K2 hK2 => ?_
  refine wp_region_lit ?_
  refine sv' hF (wn rfl) rfl rfl (R.move (hF.ev rfl)) fun a hF => ?_
  refine sv' hF (wn rfl) rfl rfl (R.loadW agg31 (hF.ev rfl) hS (.t .h) sz31 (rfl)) fun a hF => ?_
  refine sv' hF (wn rfl) rfl rfl (R.loadW agg31 (hF.ev rfl) hS .h sz31 (rfl)) fun a hF => ?_
  refine sv' hF (wn rfl) rfl rfl (R.buildStr (l := askc ⟨2, n, m, 0, 0⟩) Try.underlying72 ze72 pl72 (hF.evp rfl) (by kernel_rfl)) fun a hF => ?_
  refine so (wn rfl) (O.callK rfl rfl hF ent120 (hF.evs rfl) hS (hNX asks ⟨2, n, m, 0, 0⟩ _ _ hH (hS.own1 (.t (.t .h))) (hQ.down hS (.t (.t .h))) (hI.down hS (.t (.t .h))) hl) (fun _ => (.t (.t .h))) fun v s14 a w hR hF hS => ?_)
  obtain ⟨rfl, hH2⟩ := hR
  refine sv' hF (wn rfl) rfl rfl (R.move (hF.ev rfl)) fun a hF => ?_
  refine sv' hF (wn rfl) rfl rfl (R.extract (hF.ev rfl) rfl) fun a hF => ?_
  refine sv' hF (wn rfl) rfl rfl (R.extract (hF.ev rfl) rfl) fun a hF => ?_
  refine so (wn rfl) (O.alloc rfl rfl hF ze31 rfl hS fun b7 a w hF hS => ?_)
  refine so (wn rfl) (O.storeW sz31 (hF.ev rfl) (hF.ev rfl) (rfl) rfl (by simp [Value.oneCell']) hS .h (rfl) fun w hS => ?_)
  refine sv' hF (wn rfl) rfl rfl (R.assign (hF.ev rfl)) fun a hF => ?_
  refine s0 ?_
  refine then_n (hK2 _ _ ?_)
  refine wp_seq_k fun K3 hK3 => ?_
  refine wp_region_lit ?_
  refine sv' hF (wn rfl) rfl rfl (R.move (hF.ev rfl)) fun a hF => ?_
  refine sv' hF (wn rfl) rfl rfl (R.assign (hF.ev rfl)) fun a hF => ?_
  refine s0 ?_
  refine then_n (hK3 _ _ ?_)
  refine wp_ret (hR _ _ _ _ _ hF (run_results Try.results118 (.t hF rfl (.nil))) ?_)
  exact ⟨_, s14, rfl, ⟨rfl, hH2⟩, hS.one (.t (.t (.t .h)))⟩

theorem have_calls (F : Fx) (asks : List Fw.Ask) (s : Seg) (t z : Nat) (w0 : World) (hNX : NextOK F) (hH : HostS F asks s) (ho : Own w0 s) (hQ : RdK w0 (s.map (·.1)) F.qA (F.reps.flatMap repc)) (hI : RdK w0 (s.map (·.1)) F.iA (byts F.inner)) (hl : asks.length ≤ 20000) : Ret Try.prog 116 [.pointer (some ⟨F.hb, 0, none⟩), .int .i64 ((t : Nat) : Int), .agg (adc (adF z)).toArray] w0 (s.map (·.1)) (fun v s' => v = .tuple #[wv (F.rep asks.length).1, .int .i64 (F.rep asks.length).2] ∧ HostS F (asks ++ [⟨3, 0, 0, t, z⟩]) s') := by
  refine fn_start Try.func116 rfl Try.ntmps116 rfl [(0, .pointer (some ⟨F.hb, 0, none⟩)), (1, .int .i64 ((t : Nat) : Int)), (2, .agg (adc (adF z)).toArray)] ⟨rfl, rfl, rfl, trivial⟩ ?_
  intro Q a hP hF hR hN
  have hS := St.enter ho
  refine wp_seq_k fun K1 hK1 => ?_
  refine wp_region_lit ?_
  refine so (wn rfl) (O.box rfl rfl hF (hF.ev rfl) rfl hS fun b5 a w hF hS => ?_)
  refine so (wn rfl) (O.alloc rfl rfl hF ze31 rfl hS fun b6 a w hF hS => ?_)
  refine sv' hF (wn rfl) rfl rfl (R.assign (hF.ev rfl)) fun a hF => ?_
  refine s0 ?_
  refine then_n (hK1 _ _ ?_)
  refine wp_seq_k fun K2 hK2 => ?_
  refine wp_region_lit ?_
  refine sv' hF (wn rfl) rfl rfl (R.move (hF.ev rfl)) fun a hF => ?_
  refine sv' hF (wn rfl) rfl rfl (R.move (hF.ev rfl)) fun a hF => ?_
  refine sv' hF (wn rfl) rfl rfl (R.loadW agg28 (hF.ev rfl) hS (.t .h) sz28 (rfl)) fun a hF => ?_
  refine sv' hF (wn rfl) rfl rfl (R.buildStr (l := askc ⟨3, 0, 0, t, z⟩) Try.underlying72 ze72 pl72 (hF.evp rfl) (by kernel_rfl)) fun a hF => ?_
  refine so (wn rfl) (O.callK rfl rfl hF ent120 (hF.evs rfl) hS (hNX asks ⟨3, 0, 0, t, z⟩ _ _ hH (hS.own1 (.t (.t .h))) (hQ.down hS (.t (.t .h))) (hI.down hS (.t (.t .h))) hl) (fun _ => (.t (.t .h))) fun v s12 a w hR hF hS => ?_)
  obtain ⟨rfl, hH2⟩ := hR
  refine sv' hF (wn rfl) rfl rfl (R.extract (hF.ev rfl) rfl) fun a hF => ?_
  refine sv' hF (wn rfl) rfl rfl (R.extract (hF.ev rfl) rfl) fun a hF => ?_
  refine so (wn rfl) (O.storeW sz31 (hF.ev rfl) (hF.ev rfl) (rfl) rfl (by simp [Value.oneCell']) hS .h (rfl) fun w hS => ?_)
  refine sv' hF (wn rfl) rfl rfl (R.assign (hF.ev rfl)) fun a hF => ?_
  refine s0 ?_
  refine then_n (hK2 _ _ ?_)
  refine wp_ret (hR _ _ _ _ _ hF (run_results Try.results116 (.cw hF rfl agg31 hS .h sz31 (rfl) (.t hF rfl (.nil)))) ?_)
  exact ⟨_, s12, rfl, ⟨rfl, hH2⟩, hS.one (.t (.t .h))⟩

theorem send_calls (F : Fx) (asks : List Fw.Ask) (s : Seg) (t z n : Nat) (w0 : World) (hNX : NextOK F) (hH : HostS F asks s) (ho : Own w0 s) (hQ : RdK w0 (s.map (·.1)) F.qA (F.reps.flatMap repc)) (hI : RdK w0 (s.map (·.1)) F.iA (byts F.inner)) (hl : asks.length ≤ 20000) : Ret Try.prog 119 [.pointer (some ⟨F.hb, 0, none⟩), .int .i64 ((t : Nat) : Int), .agg (adc (adF z)).toArray, wv n] w0 (s.map (·.1)) (fun v s' => v = .int .i64 (F.rep asks.length).2 ∧ HostS F (asks ++ [⟨4, n, 0, t, z⟩]) s') := by
  refine fn_start Try.func119 rfl Try.ntmps119 rfl [(0, .pointer (some ⟨F.hb, 0, none⟩)), (1, .int .i64 ((t : Nat) : Int)), (2, .agg (adc (adF z)).toArray), (3, wv n)] ⟨rfl, rfl, rfl, rfl, trivial⟩ ?_
  intro Q a hP hF hR hN
  have hS := St.enter ho
  refine wp_seq_k fun K1 hK1 => ?_
  refine wp_region_lit ?_
  refine so (wn rfl) (O.box rfl rfl hF (hF.ev rfl) rfl hS fun b6 a w hF hS => ?_)
  refine so (wn rfl) (O.box rfl rfl hF (hF.ev rfl) rfl hS fun b7 a w hF hS => ?_)
  refine sv' hF (wn rfl) rfl rfl (R.assign (hF.ev rfl)) fun a hF => ?_
  refine s0 ?_
  refine then_n (hK1 _ _ ?_)
  refine wp_seq_k fun K2 hK2 => ?_
  refine wp_region_lit ?_
  refine sv' hF (wn rfl) rfl rfl (R.move (hF.ev rfl)) fun a hF => ?_
  refine sv' hF (wn rfl) rfl rfl (R.move (hF.ev rfl)) fun a hF => ?_
  refine sv' hF (wn rfl) rfl rfl (R.loadW agg28 (hF.ev rfl) hS (.t .h) sz28 (rfl)) fun a hF => ?_
  refine sv' hF (wn rfl) rfl rfl (R.loadW agg31 (hF.ev rfl) hS .h sz31 (rfl)) fun a hF => ?_
  refine sv' hF (wn rfl) rfl rfl (R.buildStr (l := askc ⟨4, n, 0, t, z⟩) Try.underlying72 ze72 pl72 (hF.evp rfl) (by kernel_rfl)) fun a hF => ?_
  refine so (wn rfl) (O.callK rfl rfl hF ent120 (hF.evs rfl) hS (hNX asks ⟨4, n, 0, t, z⟩ _ _ hH (hS.own1 (.t (.t .h))) (hQ.down hS (.t (.t .h))) (hI.down hS (.t (.t .h))) hl) (fun _ => (.t (.t .h))) fun v s17 a w hR hF hS => ?_)
  obtain ⟨rfl, hH2⟩ := hR
  refine sv' hF (wn rfl) rfl rfl (R.move (hF.ev rfl)) fun a hF => ?_
  refine sv' hF (wn rfl) rfl rfl (R.extract (hF.ev rfl) rfl) fun a hF => ?_
  refine sv' hF (wn rfl) rfl rfl (R.extract (hF.ev rfl) rfl) fun a hF => ?_
  refine so (wn rfl) (O.alloc rfl rfl hF ze31 rfl hS fun b9 a w hF hS => ?_)
  refine so (wn rfl) (O.storeW sz31 (hF.ev rfl) (hF.ev rfl) (rfl) rfl (by simp [Value.oneCell']) hS .h (rfl) fun w hS => ?_)
  refine sv' hF (wn rfl) rfl rfl (R.assign (hF.ev rfl)) fun a hF => ?_
  refine s0 ?_
  refine then_n (hK2 _ _ ?_)
  refine wp_seq_k fun K3 hK3 => ?_
  refine wp_region_lit ?_
  refine sv' hF (wn rfl) rfl rfl (R.move (hF.ev rfl)) fun a hF => ?_
  refine sv' hF (wn rfl) rfl rfl (R.assign (hF.ev rfl)) fun a hF => ?_
  refine s0 ?_
  refine then_n (hK3 _ _ ?_)
  refine wp_ret (hR _ _ _ _ _ hF (run_results Try.results119 (.t hF rfl (.nil))) ?_)
  exact ⟨_, s17, rfl, ⟨rfl, hH2⟩, hS.one (.t (.t (.t .h)))⟩

end Go.Proofs.Ytlapmbkfmbkdoaa

/- The instructions that ask the host. -/
namespace Go.Proofs.Ytlapmbkfmbkdoaa
open Go Go.Fw Go.RowKit
attribute [local irreducible] Go.Oper.wp Go.Code.wp Go.wpList Go.Fw.WL Go.Calls
set_option maxHeartbeats 2000000 in
theorem load_ok (F : Fx) (V : Vr) (stk : List Nat) (asks : List Fw.Ask) (s1 s2 : Seg) (vb : Nat) (u : Nat → Nat) (w0 : World) (hNX : NextOK F) (hRun : RunS F V stk s1) (hH : HostS F asks s2) (ho : Own w0 (s1 ++ s2)) (hv : RdK w0 ((s1 ++ s2).map (·.1)) (some ⟨vb, 0, none⟩) (vc u)) (hvM : ∀ i, u i < 115792089237316195423570985008687907853269984665640564039457584007913129639936) (hQ : RdK w0 ((s1 ++ s2).map (·.1)) F.qA (F.reps.flatMap repc)) (hI : RdK w0 ((s1 ++ s2).map (·.1)) F.iA (byts F.inner)) (hl : stk.length ≤ 64) (hla : asks.length ≤ 20000) (he : (F.rep asks.length).2 = 0) : Ret Try.prog 73 [.pointer (some ⟨F.rb, 0, none⟩), .slice (some ⟨vb, 0, none⟩) 1 3] w0 ((s1 ++ s2).map (·.1)) (fun v s' => DidH F V (stk ++ [(F.rep asks.length).1]) (asks ++ [⟨1, u 0, 0, 0, 0⟩]) v s') := by
  refine fn_start Try.func73 rfl Try.ntmps73 rfl [(0, .pointer (some ⟨F.rb, 0, none⟩)), (1, .slice (some ⟨vb, 0, none⟩) 1 3)] ⟨rfl, rfl, trivial⟩ ?_
  intro Q a hP hF hR hN
  have hS := St.enter ho
  obtain ⟨A, c, sg, hs, hO⟩ := hRun; have hS := hS.flat (bs' := [[(F.rb, Cel (rcells F (.slice A stk.length c) V) 81)], sg, s2]) (by simp [hs])
  refine wp_seq_k fun K1 hK1 => ?_
  refine wp_region_lit ?_
  refine sv' hF (wn rfl) rfl rfl (R.assign (hF.ev rfl)) fun a hF => ?_
  refine s0 ?_
  refine then_n (hK1 _ _ ?_)
  refine wp_seq_k fun K2 hK2 => ?_
  refine wp_draw2G hS (hS.sel [0] rfl rfl) [(0, 0), (1, 0), (2, 0), (3, 1), (4, 0), (5, 0), (6, 1), (7, 0), (8, 0)] [[(9, 2), (10, 0), (11, 0), (12, 0), (13, 2), (14, 2), (15, 0)], [(13, 2), (9, 2), (10, 0), (11, 0), (12, 0), (14, 2), (15, 0)]] mix (by kernel_rfl) (hP.then) fun w hS hD => ?_
  refine dq hF rfl (wn rfl) rfl rfl (fun w => R.move (hF.ev rfl)) fun a hF => ?_
  refine dq hF rfl (wn rfl) rfl rfl (fun w => R.nilCheck (hF.ev rfl)) fun a hF => ?_
  refine dq hF rfl (wn rfl) rfl rfl (fun w => R.fieldAddr (k := 49) Try.underlying81 rfl nz78 (hF.ev rfl) rfl) fun a hF => ?_
  refine dr hF rfl (wn rfl) rfl rfl hD (fun w hD => R.load one78 (hF.ev rfl) hD .h (rfl)) fun a hF => ?_
  refine dq hF rfl (wn rfl) rfl rfl (fun w => R.move (hF.ev rfl)) fun a hF => ?_
  refine dq hF rfl (wn rfl) rfl rfl (fun w => R.indexO Try.underlying32 sz31 (hF.ev rfl) (by simp) (hF.ev rfl) (by omega) (by omega)) fun a hF => ?_
  refine dr hF rfl (wn rfl) rfl rfl hD (fun w hD => R.loadAO (cs := wc (u 0)) agg31 (hF.ev rfl) (hv.old hD) sz31 rfl (Nat.succ_pos _) (v0_at rfl)) fun a hF => ?_
  refine dq hF rfl (wn rfl) rfl rfl (fun w => R.nilCheckI (hF.ev rfl)) fun a hF => ?_
  refine dq hF rfl (wn rfl) rfl rfl (fun w => R.move (hF.ev rfl)) fun a hF => ?_
  refine d0 ?_
  refine alts2 ?_ ?_
  ·
    refine dl rfl (wn rfl) (O.callM rfl rfl hF (hF.ev rfl) (meth_load F.hb) ent117 (hF.evs rfl) hS (load_calls F asks _ (u 0) _ hNX hH (hS.own1 (.t (.t .h))) (hQ.down hS (.t (.t .h))) (hI.down hS (.t (.t .h))) hla) (fun _ => (.t (.t .h))) fun v s17 a w hR hF hS => ⟨fun hD => hS.sel [0] rfl rfl, ?_⟩)
    have hD := hS.sel [0] rfl rfl
    obtain ⟨rfl, hH2⟩ := hR
    refine dq hF rfl (wn rfl) rfl rfl (fun w => R.move (hF.ev rfl)) fun a hF => ?_
    refine dq hF rfl (wn rfl) rfl rfl (fun w => R.extract (hF.ev rfl) rfl) fun a hF => ?_
    refine dq hF rfl (wn rfl) rfl rfl (fun w => R.extract (hF.ev rfl) rfl) fun a hF => ?_
    refine dl rfl (wn rfl) (O.alloc rfl rfl hF ze31 rfl hS fun b5 a w hF hS => ⟨fun hD => hS.sel [1] rfl rfl, ?_⟩)
    have hD := hS.sel [1] rfl rfl
    refine dl rfl (wn rfl) (O.storeW sz31 (hF.ev rfl) (hF.ev rfl) (rfl) rfl (by simp [Value.oneCell']) hS .h (rfl) fun w hS => ⟨fun hD => hS.sel [1] rfl rfl, ?_⟩)
    have hD := hS.sel [1] rfl rfl
    refine dq hF rfl (wn rfl) rfl rfl (fun w => R.assign (hF.ev rfl)) fun a hF => ?_
    refine d0 ?_
    refine then_n (hK2 _ _ ?_)
    refine wp_seq_k fun K3 hK3 => ?_
    refine wp_seq_k fun K4 hK4 => ?_
    refine wp_region_lit ?_
    refine sv' hF (wn rfl) rfl rfl (R.move (hF.ev rfl)) fun a hF => ?_
    refine sv' hF (wn rfl) rfl rfl (R.as (u := .bool false) (R.neq (p := (F.rep asks.length).2) (q := 0) (hF.ev rfl) (hF.ev rfl)) (congrArg Value.bool (decide_eq_false (fun h => h he)))) fun a hF => ?_
    refine s0 ?_
    refine then_n (hK4 _ _ ?_)
    refine cF hF rfl ?_
    refine wp_skip ?_
    refine then_n (hK3 _ _ ?_)
    refine wp_seq_k fun K5 hK5 => ?_
    refine wp_region_lit ?_
    refine sv' hF (wn rfl) rfl rfl (R.move (hF.ev rfl)) fun a hF => ?_
    refine sv' hF (wn rfl) rfl rfl (R.loadW agg31 (hF.ev rfl) hS .h sz31 (rfl)) fun a hF => ?_
    have hS := (hS.sel [1, 2, 3] rfl rfl).flat (bs' := [(F.rb, Cel (rcells F (.slice A stk.length c) V) 81) :: sg, s17]) (by simp [selS])
    refine so (wn rfl) (O.callK rfl rfl hF ent79 (hF.evs rfl) hS (on_calls F V stk _ ((F.rep asks.length).1) _ ⟨A, c, sg, rfl, hO⟩ (hS.own1 .h) (hl)) (fun _ => .h) fun v s25 a w hR hF hS => ?_)
    obtain ⟨rfl, hRun2⟩ := hR
    refine sv' hF (wn rfl) rfl rfl (R.assign (hF.ev rfl)) fun a hF => ?_
    refine s0 ?_
    refine then_n (hK5 _ _ ?_)
    refine wp_ret (hR _ _ _ _ _ hF (run_results Try.results73 (.t hF rfl (.nil))) ?_)
    exact ⟨_, s25 ++ s17, rfl, ⟨rfl, s25, s17, rfl, hRun2, hH2⟩, (hS.sel [0, 1] rfl rfl).flat (by simp [selS])⟩
  ·
    refine dl rfl (wn rfl) (O.alloc rfl rfl hF ze31 rfl hS fun b5 a w hF hS => ⟨fun hD => hS.sel [1] rfl rfl, ?_⟩)
    have hD := hS.sel [1] rfl rfl
    refine dl rfl (wn rfl) (O.callM rfl rfl hF (hF.ev rfl) (meth_load F.hb) ent117 (hF.evs rfl) hS (load_calls F asks _ (u 0) _ hNX hH (hS.own1 (.t (.t (.t .h)))) (hQ.down hS (.t (.t (.t .h)))) (hI.down hS (.t (.t (.t .h)))) hla) (fun _ => (.t (.t (.t .h)))) fun v s17 a w hR hF hS => ⟨fun hD => hS.sel [1] rfl rfl, ?_⟩)
    have hD := hS.sel [1] rfl rfl
    obtain ⟨rfl, hH2⟩ := hR
    refine dq hF rfl (wn rfl) rfl rfl (fun w => R.move (hF.ev rfl)) fun a hF => ?_
    refine dq hF rfl (wn rfl) rfl rfl (fun w => R.extract (hF.ev rfl) rfl) fun a hF => ?_
    refine dq hF rfl (wn rfl) rfl rfl (fun w => R.extract (hF.ev rfl) rfl) fun a hF => ?_
    refine dl rfl (wn rfl) (O.storeW sz31 (hF.ev rfl) (hF.ev rfl) (rfl) rfl (by simp [Value.oneCell']) hS .h (rfl) fun w hS => ⟨fun hD => hS.sel [1] rfl rfl, ?_⟩)
    have hD := hS.sel [1] rfl rfl
    refine dq hF rfl (wn rfl) rfl rfl (fun w => R.assign (hF.ev rfl)) fun a hF => ?_
    refine d0 ?_
    refine then_n (hK2 _ _ ?_)
    refine wp_seq_k fun K6 hK6 => ?_
    refine wp_seq_k fun K7 hK7 => ?_
    refine wp_region_lit ?_
    refine sv' hF (wn rfl) rfl rfl (R.move (hF.ev rfl)) fun a hF => ?_
    refine sv' hF (wn rfl) rfl rfl (R.as (u := .bool false) (R.neq (p := (F.rep asks.length).2) (q := 0) (hF.ev rfl) (hF.ev rfl)) (congrArg Value.bool (decide_eq_false (fun h => h he)))) fun a hF => ?_
    refine s0 ?_
    refine then_n (hK7 _ _ ?_)
    refine cF hF rfl ?_
    refine wp_skip ?_
    refine then_n (hK6 _ _ ?_)
    refine wp_seq_k fun K8 hK8 => ?_
    refine wp_region_lit ?_
    refine sv' hF (wn rfl) rfl rfl (R.move (hF.ev rfl)) fun a hF => ?_
    refine sv' hF (wn rfl) rfl rfl (R.loadW agg31 (hF.ev rfl) hS .h sz31 (rfl)) fun a hF => ?_
    have hS := (hS.sel [1, 2, 3] rfl rfl).flat (bs' := [(F.rb, Cel (rcells F (.slice A stk.length c) V) 81) :: sg, s17]) (by simp [selS])
    refine so (wn rfl) (O.callK rfl rfl hF ent79 (hF.evs rfl) hS (on_calls F V stk _ ((F.rep asks.length).1) _ ⟨A, c, sg, rfl, hO⟩ (hS.own1 .h) (hl)) (fun _ => .h) fun v s25 a w hR hF hS => ?_)
    obtain ⟨rfl, hRun2⟩ := hR
    refine sv' hF (wn rfl) rfl rfl (R.assign (hF.ev rfl)) fun a hF => ?_
    refine s0 ?_
    refine then_n (hK8 _ _ ?_)
    refine wp_ret (hR _ _ _ _ _ hF (run_results Try.results73 (.t hF rfl (.nil))) ?_)
    exact ⟨_, s25 ++ s17, rfl, ⟨rfl, s25, s17, rfl, hRun2, hH2⟩, (hS.sel [0, 1] rfl rfl).flat (by simp [selS])⟩

set_option maxHeartbeats 2000000 in
theorem load_err (F : Fx) (V : Vr) (stk : List Nat) (asks : List Fw.Ask) (s1 s2 : Seg) (vb : Nat) (u : Nat → Nat) (w0 : World) (hNX : NextOK F) (hRun : RunS F V stk s1) (hH : HostS F asks s2) (ho : Own w0 (s1 ++ s2)) (hv : RdK w0 ((s1 ++ s2).map (·.1)) (some ⟨vb, 0, none⟩) (vc u)) (hvM : ∀ i, u i < 115792089237316195423570985008687907853269984665640564039457584007913129639936) (hQ : RdK w0 ((s1 ++ s2).map (·.1)) F.qA (F.reps.flatMap repc)) (hI : RdK w0 ((s1 ++ s2).map (·.1)) F.iA (byts F.inner)) (hl : stk.length ≤ 64) (hla : asks.length ≤ 20000) (he : ¬ (F.rep asks.length).2 = 0) : Ret Try.prog 73 [.pointer (some ⟨F.rb, 0, none⟩), .slice (some ⟨vb, 0, none⟩) 1 3] w0 ((s1 ++ s2).map (·.1)) (fun v s' => ErrH F (asks ++ [⟨1, u 0, 0, 0, 0⟩]) (F.rep asks.length).2 v s') := by
  refine fn_start Try.func73 rfl Try.ntmps73 rfl [(0, .pointer (some ⟨F.rb, 0, none⟩)), (1, .slice (some ⟨vb, 0, none⟩) 1 3)] ⟨rfl, rfl, trivial⟩ ?_
  intro Q a hP hF hR hN
  have hS := St.enter ho
  obtain ⟨A, c, sg, hs, hO⟩ := hRun; have hS := hS.flat (bs' := [[(F.rb, Cel (rcells F (.slice A stk.length c) V) 81)], sg, s2]) (by simp [hs])
  refine wp_seq_k fun K1 hK1 => ?_
  refine wp_region_lit ?_
  refine sv' hF (wn rfl) rfl rfl (R.assign (hF.ev rfl)) fun a hF => ?_
  refine s0 ?_
  refine then_n (hK1 _ _ ?_)
  refine wp_seq_k fun K2 hK2 => ?_
  refine wp_draw2G hS (hS.sel [0] rfl rfl) [(0, 0), (1, 0), (2, 0), (3, 1), (4, 0), (5, 0), (6, 1), (7, 0), (8, 0)] [[(9, 2), (10, 0), (11, 0), (12, 0), (13, 2), (14, 2), (15, 0)], [(13, 2), (9, 2), (10, 0), (11, 0), (12, 0), (14, 2), (15, 0)]] mix (by kernel_rfl) (hP.then) fun w hS hD => ?_
  refine dq hF rfl (wn rfl) rfl rfl (fun w => R.move (hF.ev rfl)) fun a hF => ?_
  refine dq hF rfl (wn rfl) rfl rfl (fun w => R.nilCheck (hF.ev rfl)) fun a hF => ?_
  refine dq hF rfl (wn rfl) rfl rfl (fun w => R.fieldAddr (k := 49) Try.underlying81 rfl nz78 (hF.ev rfl) rfl) fun a hF => ?_
  refine dr hF rfl (wn rfl) rfl rfl hD (fun w hD => R.load one78 (hF.ev rfl) hD .h (rfl)) fun a hF => ?_
  refine dq hF rfl (wn rfl) rfl rfl (fun w => R.move (hF.ev rfl)) fun a hF => ?_
  refine dq hF rfl (wn rfl) rfl rfl (fun w => R.indexO Try.underlying32 sz31 (hF.ev rfl) (by simp) (hF.ev rfl) (by omega) (by omega)) fun a hF => ?_
  refine dr hF rfl (wn rfl) rfl rfl hD (fun w hD => R.loadAO (cs := wc (u 0)) agg31 (hF.ev rfl) (hv.old hD) sz31 rfl (Nat.succ_pos _) (v0_at rfl)) fun a hF => ?_
  refine dq hF rfl (wn rfl) rfl rfl (fun w => R.nilCheckI (hF.ev rfl)) fun a hF => ?_
  refine dq hF rfl (wn rfl) rfl rfl (fun w => R.move (hF.ev rfl)) fun a hF => ?_
  refine d0 ?_
  refine alts2 ?_ ?_
  ·
    refine dl rfl (wn rfl) (O.callM rfl rfl hF (hF.ev rfl) (meth_load F.hb) ent117 (hF.evs rfl) hS (load_calls F asks _ (u 0) _ hNX hH (hS.own1 (.t (.t .h))) (hQ.down hS (.t (.t .h))) (hI.down hS (.t (.t .h))) hla) (fun _ => (.t (.t .h))) fun v s17 a w hR hF hS => ⟨fun hD => hS.sel [0] rfl rfl, ?_⟩)
    have hD := hS.sel [0] rfl rfl
    obtain ⟨rfl, hH2⟩ := hR
    refine dq hF rfl (wn rfl) rfl rfl (fun w => R.move (hF.ev rfl)) fun a hF => ?_
    refine dq hF rfl (wn rfl) rfl rfl (fun w => R.extract (hF.ev rfl) rfl) fun a hF => ?_
    refine dq hF rfl (wn rfl) rfl rfl (fun w => R.extract (hF.ev rfl) rfl) fun a hF => ?_
    refine dl rfl (wn rfl) (O.alloc rfl rfl hF ze31 rfl hS fun b5 a w hF hS => ⟨fun hD => hS.sel [1] rfl rfl, ?_⟩)
    have hD := hS.sel [1] rfl rfl
    refine dl rfl (wn rfl) (O.storeW sz31 (hF.ev rfl) (hF.ev rfl) (rfl) rfl (by simp [Value.oneCell']) hS .h (rfl) fun w hS => ⟨fun hD => hS.sel [1] rfl rfl, ?_⟩)
    have hD := hS.sel [1] rfl rfl
    refine dq hF rfl (wn rfl) rfl rfl (fun w => R.assign (hF.ev rfl)) fun a hF => ?_
    refine d0 ?_
    refine then_n (hK2 _ _ ?_)
    refine wp_seq_k fun K3 hK3 => ?_
    refine wp_seq_k fun K4 hK4 => ?_
    refine wp_region_lit ?_
    refine sv' hF (wn rfl) rfl rfl (R.move (hF.ev rfl)) fun a hF => ?_
    refine sv' hF (wn rfl) rfl rfl (R.as (u := .bool true) (R.neq (p := (F.rep asks.length).2) (q := 0) (hF.ev rfl) (hF.ev rfl)) (congrArg Value.bool (decide_eq_true he))) fun a hF => ?_
    refine s0 ?_
    refine then_n (hK4 _ _ ?_)
    refine cT hF rfl ?_
    refine wp_seq_k fun K5 hK5 => ?_
    refine wp_region_lit ?_
    refine sv' hF (wn rfl) rfl rfl (R.move (hF.ev rfl)) fun a hF => ?_
    refine sv' hF (wn rfl) rfl rfl (R.assign (hF.ev rfl)) fun a hF => ?_
    refine s0 ?_
    refine then_n (hK5 _ _ ?_)
    refine wp_ret (then_r (hR _ _ _ _ _ hF (run_results Try.results73 (.t hF rfl (.nil))) ?_))
    exact ⟨_, s17, rfl, ⟨rfl, [], s17, rfl, hH2⟩, hS.one (.t (.t (.t .h)))⟩
  ·
    refine dl rfl (wn rfl) (O.alloc rfl rfl hF ze31 rfl hS fun b5 a w hF hS => ⟨fun hD => hS.sel [1] rfl rfl, ?_⟩)
    have hD := hS.sel [1] rfl rfl
    refine dl rfl (wn rfl) (O.callM rfl rfl hF (hF.ev rfl) (meth_load F.hb) ent117 (hF.evs rfl) hS (load_calls F asks _ (u 0) _ hNX hH (hS.own1 (.t (.t (.t .h)))) (hQ.down hS (.t (.t (.t .h)))) (hI.down hS (.t (.t (.t .h)))) hla) (fun _ => (.t (.t (.t .h)))) fun v s17 a w hR hF hS => ⟨fun hD => hS.sel [1] rfl rfl, ?_⟩)
    have hD := hS.sel [1] rfl rfl
    obtain ⟨rfl, hH2⟩ := hR
    refine dq hF rfl (wn rfl) rfl rfl (fun w => R.move (hF.ev rfl)) fun a hF => ?_
    refine dq hF rfl (wn rfl) rfl rfl (fun w => R.extract (hF.ev rfl) rfl) fun a hF => ?_
    refine dq hF rfl (wn rfl) rfl rfl (fun w => R.extract (hF.ev rfl) rfl) fun a hF => ?_
    refine dl rfl (wn rfl) (O.storeW sz31 (hF.ev rfl) (hF.ev rfl) (rfl) rfl (by simp [Value.oneCell']) hS .h (rfl) fun w hS => ⟨fun hD => hS.sel [1] rfl rfl, ?_⟩)
    have hD := hS.sel [1] rfl rfl
    refine dq hF rfl (wn rfl) rfl rfl (fun w => R.assign (hF.ev rfl)) fun a hF => ?_
    refine d0 ?_
    refine then_n (hK2 _ _ ?_)
    refine wp_seq_k fun K6 hK6 => ?_
    refine wp_seq_k fun K7 hK7 => ?_
    refine wp_region_lit ?_
    refine sv' hF (wn rfl) rfl rfl (R.move (hF.ev rfl)) fun a hF => ?_
    refine sv' hF (wn rfl) rfl rfl (R.as (u := .bool true) (R.neq (p := (F.rep asks.length).2) (q := 0) (hF.ev rfl) (hF.ev rfl)) (congrArg Value.bool (decide_eq_true he))) fun a hF => ?_
    refine s0 ?_
    refine then_n (hK7 _ _ ?_)
    refine cT hF rfl ?_
    refine wp_seq_k fun K8 hK8 => ?_
    refine wp_region_lit ?_
    refine sv' hF (wn rfl) rfl rfl (R.move (hF.ev rfl)) fun a hF => ?_
    refine sv' hF (wn rfl) rfl rfl (R.assign (hF.ev rfl)) fun a hF => ?_
    refine s0 ?_
    refine then_n (hK8 _ _ ?_)
    refine wp_ret (then_r (hR _ _ _ _ _ hF (run_results Try.results73 (.t hF rfl (.nil))) ?_))
    exact ⟨_, s17, rfl, ⟨rfl, [], s17, rfl, hH2⟩, hS.one (.t (.t (.t .h)))⟩

set_option maxHeartbeats 2000000 in
theorem save_ok (F : Fx) (V : Vr) (stk : List Nat) (asks : List Fw.Ask) (s1 s2 : Seg) (vb : Nat) (u : Nat → Nat) (w0 : World) (hNX : NextOK F) (hRun : RunS F V stk s1) (hH : HostS F asks s2) (ho : Own w0 (s1 ++ s2)) (hv : RdK w0 ((s1 ++ s2).map (·.1)) (some ⟨vb, 0, none⟩) (vc u)) (hvM : ∀ i, u i < 115792089237316195423570985008687907853269984665640564039457584007913129639936) (hQ : RdK w0 ((s1 ++ s2).map (·.1)) F.qA (F.reps.flatMap repc)) (hI : RdK w0 ((s1 ++ s2).map (·.1)) F.iA (byts F.inner)) (hl : stk.length ≤ 64) (hla : asks.length ≤ 20000) (he : (F.rep asks.length).2 = 0) : Ret Try.prog 74 [.pointer (some ⟨F.rb, 0, none⟩), .slice (some ⟨vb, 0, none⟩) 2 3] w0 ((s1 ++ s2).map (·.1)) (fun v s' => DidH F V stk (asks ++ [⟨2, u 0, u 1, 0, 0⟩]) v s') := by
  refine fn_start Try.func74 rfl Try.ntmps74 rfl [(0, .pointer (some ⟨F.rb, 0, none⟩)), (1, .slice (some ⟨vb, 0, none⟩) 2 3)] ⟨rfl, rfl, trivial⟩ ?_
  intro Q a hP hF hR hN
  have hS := St.enter ho
  obtain ⟨A, c, sg, hs, hO⟩ := hRun; have hS := hS.flat (bs' := [[(F.rb, Cel (rcells F (.slice A stk.length c) V) 81)], sg, s2]) (by simp [hs])
  refine wp_seq_k fun K1 hK1 => ?_
  refine wp_region_lit ?_
  refine sv' hF (wn rfl) rfl rfl (R.assign (hF.ev rfl)) fun a hF => ?_
  refine s0 ?_
  refine then_n (hK1 _ _ ?_)
  refine wp_seq_k fun K2 hK2 => ?_
  refine wp_drawG hS (hS.sel [0] rfl rfl) [(0, 0), (1, 0), (2, 0), (3, 1), (4, 0), (5, 0), (6, 1), (7, 0), (8, 0), (9, 1), (10, 0), (11, 0), (12, 2), (13, 0)] mix (by kernel_rfl) (hP.then) fun w hS hD => ?_
  refine dq hF rfl (wn rfl) rfl rfl (fun w => R.move (hF.ev rfl)) fun a hF => ?_
  refine dq hF rfl (wn rfl) rfl rfl (fun w => R.nilCheck (hF.ev rfl)) fun a hF => ?_
  refine dq hF rfl (wn rfl) rfl rfl (fun w => R.fieldAddr (k := 49) Try.underlying81 rfl nz78 (hF.ev rfl) rfl) fun a hF => ?_
  refine dr hF rfl (wn rfl) rfl rfl hD (fun w hD => R.load one78 (hF.ev rfl) hD .h (rfl)) fun a hF => ?_
  refine dq hF rfl (wn rfl) rfl rfl (fun w => R.move (hF.ev rfl)) fun a hF => ?_
  refine dq hF rfl (wn rfl) rfl rfl (fun w => R.indexO Try.underlying32 sz31 (hF.ev rfl) (by simp) (hF.ev rfl) (by omega) (by omega)) fun a hF => ?_
  refine dr hF rfl (wn rfl) rfl rfl hD (fun w hD => R.loadAO (cs := wc (u 0)) agg31 (hF.ev rfl) (hv.old hD) sz31 rfl (Nat.succ_pos _) (v0_at rfl)) fun a hF => ?_
  refine dq hF rfl (wn rfl) rfl rfl (fun w => R.move (hF.ev rfl)) fun a hF => ?_
  refine dq hF rfl (wn rfl) rfl rfl (fun w => R.indexO Try.underlying32 sz31 (hF.ev rfl) (by simp) (hF.ev rfl) (by omega) (by omega)) fun a hF => ?_
  refine dr hF rfl (wn rfl) rfl rfl hD (fun w hD => R.loadAO (cs := wc (u 1)) agg31 (hF.ev rfl) (hv.old hD) sz31 rfl (Nat.succ_pos _) (v1_at rfl)) fun a hF => ?_
  refine dq hF rfl (wn rfl) rfl rfl (fun w => R.nilCheckI (hF.ev rfl)) fun a hF => ?_
  refine dq hF rfl (wn rfl) rfl rfl (fun w => R.move (hF.ev rfl)) fun a hF => ?_
  refine dl rfl (wn rfl) (O.callM rfl rfl hF (hF.ev rfl) (meth_save F.hb) ent118 (hF.evs rfl) hS (save_calls F asks _ (u 0) (u 1) _ hNX hH (hS.own1 (.t (.t .h))) (hQ.down hS (.t (.t .h))) (hI.down hS (.t (.t .h))) hla) (fun _ => (.t (.t .h))) fun v s17 a w hR hF hS => ⟨fun hD => hS.sel [0] rfl rfl, ?_⟩)
  have hD := hS.sel [0] rfl rfl
  obtain ⟨rfl, hH2⟩ := hR
  refine dq hF rfl (wn rfl) rfl rfl (fun w => R.assign (hF.ev rfl)) fun a hF => ?_
  refine d0 ?_
  refine then_n (hK2 _ _ ?_)
  refine wp_ret (hR _ _ _ _ _ hF (run_results Try.results74 (.t hF rfl (.nil))) ?_)
  rw [he]
  exact ⟨_, ((F.rb, Cel (rcells F (.slice A stk.length c) V) 81) :: sg) ++ s17, rfl, ⟨rfl, _, s17, rfl, ⟨A, c, sg, rfl, hO⟩, hH2⟩, (hS.sel [0, 1, 2] rfl rfl).flat (by simp [selS])⟩

set_option maxHeartbeats 2000000 in
theorem save_err (F : Fx) (V : Vr) (stk : List Nat) (asks : List Fw.Ask) (s1 s2 : Seg) (vb : Nat) (u : Nat → Nat) (w0 : World) (hNX : NextOK F) (hRun : RunS F V stk s1) (hH : HostS F asks s2) (ho : Own w0 (s1 ++ s2)) (hv : RdK w0 ((s1 ++ s2).map (·.1)) (some ⟨vb, 0, none⟩) (vc u)) (hvM : ∀ i, u i < 115792089237316195423570985008687907853269984665640564039457584007913129639936) (hQ : RdK w0 ((s1 ++ s2).map (·.1)) F.qA (F.reps.flatMap repc)) (hI : RdK w0 ((s1 ++ s2).map (·.1)) F.iA (byts F.inner)) (hl : stk.length ≤ 64) (hla : asks.length ≤ 20000) (he : ¬ (F.rep asks.length).2 = 0) : Ret Try.prog 74 [.pointer (some ⟨F.rb, 0, none⟩), .slice (some ⟨vb, 0, none⟩) 2 3] w0 ((s1 ++ s2).map (·.1)) (fun v s' => ErrH F (asks ++ [⟨2, u 0, u 1, 0, 0⟩]) (F.rep asks.length).2 v s') := by
  refine fn_start Try.func74 rfl Try.ntmps74 rfl [(0, .pointer (some ⟨F.rb, 0, none⟩)), (1, .slice (some ⟨vb, 0, none⟩) 2 3)] ⟨rfl, rfl, trivial⟩ ?_
  intro Q a hP hF hR hN
  have hS := St.enter ho
  obtain ⟨A, c, sg, hs, hO⟩ := hRun; have hS := hS.flat (bs' := [[(F.rb, Cel (rcells F (.slice A stk.length c) V) 81)], sg, s2]) (by simp [hs])
  refine wp_seq_k fun K1 hK1 => ?_
  refine wp_region_lit ?_
  refine sv' hF (wn rfl) rfl rfl (R.assign (hF.ev rfl)) fun a hF => ?_
  refine s0 ?_
  refine then_n (hK1 _ _ ?_)
  refine wp_seq_k fun K2 hK2 => ?_
  refine wp_drawG hS (hS.sel [0] rfl rfl) [(0, 0), (1, 0), (2, 0), (3, 1), (4, 0), (5, 0), (6, 1), (7, 0), (8, 0), (9, 1), (10, 0), (11, 0), (12, 2), (13, 0)] mix (by kernel_rfl) (hP.then) fun w hS hD => ?_
  refine dq hF rfl (wn rfl) rfl rfl (fun w => R.move (hF.ev rfl)) fun a hF => ?_
  refine dq hF rfl (wn rfl) rfl rfl (fun w => R.nilCheck (hF.ev rfl)) fun a hF => ?_
  refine dq hF rfl (wn rfl) rfl rfl (fun w => R.fieldAddr (k := 49) Try.underlying81 rfl nz78 (hF.ev rfl) rfl) fun a hF => ?_
  refine dr hF rfl (wn rfl) rfl rfl hD (fun w hD => R.load one78 (hF.ev rfl) hD .h (rfl)) fun a hF => ?_
  refine dq hF rfl (wn rfl) rfl rfl (fun w => R.move (hF.ev rfl)) fun a hF => ?_
  refine dq hF rfl (wn rfl) rfl rfl (fun w => R.indexO Try.underlying32 sz31 (hF.ev rfl) (by simp) (hF.ev rfl) (by omega) (by omega)) fun a hF => ?_
  refine dr hF rfl (wn rfl) rfl rfl hD (fun w hD => R.loadAO (cs := wc (u 0)) agg31 (hF.ev rfl) (hv.old hD) sz31 rfl (Nat.succ_pos _) (v0_at rfl)) fun a hF => ?_
  refine dq hF rfl (wn rfl) rfl rfl (fun w => R.move (hF.ev rfl)) fun a hF => ?_
  refine dq hF rfl (wn rfl) rfl rfl (fun w => R.indexO Try.underlying32 sz31 (hF.ev rfl) (by simp) (hF.ev rfl) (by omega) (by omega)) fun a hF => ?_
  refine dr hF rfl (wn rfl) rfl rfl hD (fun w hD => R.loadAO (cs := wc (u 1)) agg31 (hF.ev rfl) (hv.old hD) sz31 rfl (Nat.succ_pos _) (v1_at rfl)) fun a hF => ?_
  refine dq hF rfl (wn rfl) rfl rfl (fun w => R.nilCheckI (hF.ev rfl)) fun a hF => ?_
  refine dq hF rfl (wn rfl) rfl rfl (fun w => R.move (hF.ev rfl)) fun a hF => ?_
  refine dl rfl (wn rfl) (O.callM rfl rfl hF (hF.ev rfl) (meth_save F.hb) ent118 (hF.evs rfl) hS (save_calls F asks _ (u 0) (u 1) _ hNX hH (hS.own1 (.t (.t .h))) (hQ.down hS (.t (.t .h))) (hI.down hS (.t (.t .h))) hla) (fun _ => (.t (.t .h))) fun v s17 a w hR hF hS => ⟨fun hD => hS.sel [0] rfl rfl, ?_⟩)
  have hD := hS.sel [0] rfl rfl
  obtain ⟨rfl, hH2⟩ := hR
  refine dq hF rfl (wn rfl) rfl rfl (fun w => R.assign (hF.ev rfl)) fun a hF => ?_
  refine d0 ?_
  refine then_n (hK2 _ _ ?_)
  refine wp_ret (hR _ _ _ _ _ hF (run_results Try.results74 (.t hF rfl (.nil))) ?_)
  exact ⟨_, s17, rfl, ⟨rfl, [], s17, rfl, hH2⟩, hS.one (.t (.t .h))⟩

set_option maxHeartbeats 2000000 in
theorem have_tok (F : Fx) (V : Vr) (stk : List Nat) (asks : List Fw.Ask) (s1 s2 : Seg) (vb : Nat) (u : Nat → Nat) (w0 : World) (hNX : NextOK F) (hRun : RunS F V stk s1) (hH : HostS F asks s2) (ho : Own w0 (s1 ++ s2)) (hv : RdK w0 ((s1 ++ s2).map (·.1)) (some ⟨vb, 0, none⟩) (vc u)) (hvM : ∀ i, u i < 115792089237316195423570985008687907853269984665640564039457584007913129639936) (hQ : RdK w0 ((s1 ++ s2).map (·.1)) F.qA (F.reps.flatMap repc)) (hI : RdK w0 ((s1 ++ s2).map (·.1)) F.iA (byts F.inner)) (hl : stk.length ≤ 64) (hla : asks.length ≤ 20000) (ht : ¬ u 0 < 64) : Ret Try.prog 75 [.pointer (some ⟨F.rb, 0, none⟩), .slice (some ⟨vb, 0, none⟩) 2 3] w0 ((s1 ++ s2).map (·.1)) (fun v s' => v = .int .i64 104 ∧ s' = s1 ++ s2) := by
  refine fn_start Try.func75 rfl Try.ntmps75 rfl [(0, .pointer (some ⟨F.rb, 0, none⟩)), (1, .slice (some ⟨vb, 0, none⟩) 2 3)] ⟨rfl, rfl, trivial⟩ ?_
  intro Q a hP hF hR hN
  have hS := St.enter ho
  obtain ⟨A, c, sg, hs, hO⟩ := hRun; have hS := hS.flat (bs' := [[(F.rb, Cel (rcells F (.slice A stk.length c) V) 81)], sg, s2]) (by simp [hs])
  refine wp_seq_k fun K1 hK1 => ?_
  refine wp_region_lit ?_
  refine sv' hF (wn rfl) rfl rfl (R.assign (hF.ev rfl)) fun a hF => ?_
  refine s0 ?_
  refine then_n (hK1 _ _ ?_)
  refine wp_seq_k fun K2 hK2 => ?_
  refine wp_region_lit ?_
  refine sv' hF (wn rfl) rfl rfl (R.move (hF.ev rfl)) fun a hF => ?_
  refine sv' hF (wn rfl) rfl rfl (R.indexO Try.underlying32 sz31 (hF.ev rfl) (by simp) (hF.ev rfl) (by omega) (by omega)) fun a hF => ?_
  refine sv' hF (wn rfl) rfl rfl (R.loadAO (cs := wc (u 0)) agg31 (hF.ev rfl) (hv.old hS) sz31 rfl (Nat.succ_pos _) (v0_at rfl)) fun a hF => ?_
  refine so (wn rfl) (O.call rfl rfl hF ent90 (hF.evs rfl) hS (tokenOf_calls (u 0) _ (hvM 0)) fun v s13 a w hR hF hS => ?_)
  obtain ⟨rfl, rfl⟩ := hR
  rw [if_neg ht] at hF
  refine sv' hF (wn rfl) rfl rfl (R.move (hF.ev rfl)) fun a hF => ?_
  refine sv' hF (wn rfl) rfl rfl (R.extract (hF.ev rfl) rfl) fun a hF => ?_
  refine sv' hF (wn rfl) rfl rfl (R.extract (hF.ev rfl) rfl) fun a hF => ?_
  refine sv' hF (wn rfl) rfl rfl (R.assign (hF.ev rfl)) fun a hF => ?_
  refine sv' hF (wn rfl) rfl rfl (R.assign (hF.ev rfl)) fun a hF => ?_
  refine s0 ?_
  refine then_n (hK2 _ _ ?_)
  refine wp_seq_k fun K3 hK3 => ?_
  refine wp_seq_k fun K4 hK4 => ?_
  refine wp_region_lit ?_
  refine sv' hF (wn rfl) rfl rfl (R.move (hF.ev rfl)) fun a hF => ?_
  refine sv' hF (wn rfl) rfl rfl ((by first | exact R.notD (hF.ev rfl) | exact R.not (hF.ev rfl))) fun a hF => ?_
  refine s0 ?_
  refine then_n (hK4 _ _ ?_)
  refine cT hF rfl ?_
  refine wp_seq_k fun K5 hK5 => ?_
  refine wp_region_lit ?_
  refine sv' hF (wn rfl) rfl rfl (R.assign (hF.ev rfl)) fun a hF => ?_
  refine s0 ?_
  refine then_n (hK5 _ _ ?_)
  refine wp_ret (then_r (hR _ _ _ _ _ hF (run_results Try.results75 (.t hF rfl (.nil))) ?_))
  exact ⟨_, s1 ++ s2, rfl, ⟨rfl, rfl⟩, (hS.sel [1, 2, 3] rfl rfl).flat (by simp [hs, selS])⟩

set_option maxHeartbeats 2000000 in
theorem send_tok (F : Fx) (V : Vr) (stk : List Nat) (asks : List Fw.Ask) (s1 s2 : Seg) (vb : Nat) (u : Nat → Nat) (w0 : World) (hNX : NextOK F) (hRun : RunS F V stk s1) (hH : HostS F asks s2) (ho : Own w0 (s1 ++ s2)) (hv : RdK w0 ((s1 ++ s2).map (·.1)) (some ⟨vb, 0, none⟩) (vc u)) (hvM : ∀ i, u i < 115792089237316195423570985008687907853269984665640564039457584007913129639936) (hQ : RdK w0 ((s1 ++ s2).map (·.1)) F.qA (F.reps.flatMap repc)) (hI : RdK w0 ((s1 ++ s2).map (·.1)) F.iA (byts F.inner)) (hl : stk.length ≤ 64) (hla : asks.length ≤ 20000) (ht : ¬ u 0 < 64) : Ret Try.prog 76 [.pointer (some ⟨F.rb, 0, none⟩), .slice (some ⟨vb, 0, none⟩) 3 3] w0 ((s1 ++ s2).map (·.1)) (fun v s' => v = .int .i64 104 ∧ s' = s1 ++ s2) := by
  refine fn_start Try.func76 rfl Try.ntmps76 rfl [(0, .pointer (some ⟨F.rb, 0, none⟩)), (1, .slice (some ⟨vb, 0, none⟩) 3 3)] ⟨rfl, rfl, trivial⟩ ?_
  intro Q a hP hF hR hN
  have hS := St.enter ho
  obtain ⟨A, c, sg, hs, hO⟩ := hRun; have hS := hS.flat (bs' := [[(F.rb, Cel (rcells F (.slice A stk.length c) V) 81)], sg, s2]) (by simp [hs])
  refine wp_seq_k fun K1 hK1 => ?_
  refine wp_region_lit ?_
  refine sv' hF (wn rfl) rfl rfl (R.assign (hF.ev rfl)) fun a hF => ?_
  refine s0 ?_
  refine then_n (hK1 _ _ ?_)
  refine wp_seq_k fun K2 hK2 => ?_
  refine wp_region_lit ?_
  refine sv' hF (wn rfl) rfl rfl (R.move (hF.ev rfl)) fun a hF => ?_
  refine sv' hF (wn rfl) rfl rfl (R.indexO Try.underlying32 sz31 (hF.ev rfl) (by simp) (hF.ev rfl) (by omega) (by omega)) fun a hF => ?_
  refine sv' hF (wn rfl) rfl rfl (R.loadAO (cs := wc (u 0)) agg31 (hF.ev rfl) (hv.old hS) sz31 rfl (Nat.succ_pos _) (v0_at rfl)) fun a hF => ?_
  refine so (wn rfl) (O.call rfl rfl hF ent90 (hF.evs rfl) hS (tokenOf_calls (u 0) _ (hvM 0)) fun v s11 a w hR hF hS => ?_)
  obtain ⟨rfl, rfl⟩ := hR
  rw [if_neg ht] at hF
  refine sv' hF (wn rfl) rfl rfl (R.move (hF.ev rfl)) fun a hF => ?_
  refine sv' hF (wn rfl) rfl rfl (R.extract (hF.ev rfl) rfl) fun a hF => ?_
  refine sv' hF (wn rfl) rfl rfl (R.extract (hF.ev rfl) rfl) fun a hF => ?_
  refine sv' hF (wn rfl) rfl rfl (R.assign (hF.ev rfl)) fun a hF => ?_
  refine sv' hF (wn rfl) rfl rfl (R.assign (hF.ev rfl)) fun a hF => ?_
  refine s0 ?_
  refine then_n (hK2 _ _ ?_)
  refine wp_seq_k fun K3 hK3 => ?_
  refine wp_seq_k fun K4 hK4 => ?_
  refine wp_region_lit ?_
  refine sv' hF (wn rfl) rfl rfl (R.move (hF.ev rfl)) fun a hF => ?_
  refine sv' hF (wn rfl) rfl rfl ((by first | exact R.notD (hF.ev rfl) | exact R.not (hF.ev rfl))) fun a hF => ?_
  refine s0 ?_
  refine then_n (hK4 _ _ ?_)
  refine cT hF rfl ?_
  refine wp_seq_k fun K5 hK5 => ?_
  refine wp_region_lit ?_
  refine sv' hF (wn rfl) rfl rfl (R.assign (hF.ev rfl)) fun a hF => ?_
  refine s0 ?_
  refine then_n (hK5 _ _ ?_)
  refine wp_ret (then_r (hR _ _ _ _ _ hF (run_results Try.results76 (.t hF rfl (.nil))) ?_))
  exact ⟨_, s1 ++ s2, rfl, ⟨rfl, rfl⟩, (hS.sel [1, 2, 3] rfl rfl).flat (by simp [hs, selS])⟩

set_option maxHeartbeats 2000000 in
theorem have_ok (F : Fx) (V : Vr) (stk : List Nat) (asks : List Fw.Ask) (s1 s2 : Seg) (vb : Nat) (u : Nat → Nat) (w0 : World) (hNX : NextOK F) (hRun : RunS F V stk s1) (hH : HostS F asks s2) (ho : Own w0 (s1 ++ s2)) (hv : RdK w0 ((s1 ++ s2).map (·.1)) (some ⟨vb, 0, none⟩) (vc u)) (hvM : ∀ i, u i < 115792089237316195423570985008687907853269984665640564039457584007913129639936) (hQ : RdK w0 ((s1 ++ s2).map (·.1)) F.qA (F.reps.flatMap repc)) (hI : RdK w0 ((s1 ++ s2).map (·.1)) F.iA (byts F.inner)) (hl : stk.length ≤ 64) (hla : asks.length ≤ 20000) (ht : u 0 < 64) (he : (F.rep asks.length).2 = 0) : Ret Try.prog 75 [.pointer (some ⟨F.rb, 0, none⟩), .slice (some ⟨vb, 0, none⟩) 2 3] w0 ((s1 ++ s2).map (·.1)) (fun v s' => DidH F V (stk ++ [(F.rep asks.length).1]) (asks ++ [⟨3, 0, 0, u 0, u 1⟩]) v s') := by
  refine fn_start Try.func75 rfl Try.ntmps75 rfl [(0, .pointer (some ⟨F.rb, 0, none⟩)), (1, .slice (some ⟨vb, 0, none⟩) 2 3)] ⟨rfl, rfl, trivial⟩ ?_
  intro Q a hP hF hR hN
  have hS := St.enter ho
  obtain ⟨A, c, sg, hs, hO⟩ := hRun; have hS := hS.flat (bs' := [[(F.rb, Cel (rcells F (.slice A stk.length c) V) 81)], sg, s2]) (by simp [hs])
  refine wp_seq_k fun K1 hK1 => ?_
  refine wp_region_lit ?_
  refine sv' hF (wn rfl) rfl rfl (R.assign (hF.ev rfl)) fun a hF => ?_
  refine s0 ?_
  refine then_n (hK1 _ _ ?_)
  refine wp_seq_k fun K2 hK2 => ?_
  refine wp_region_lit ?_
  refine sv' hF (wn rfl) rfl rfl (R.move (hF.ev rfl)) fun a hF => ?_
  refine sv' hF (wn rfl) rfl rfl (R.indexO Try.underlying32 sz31 (hF.ev rfl) (by simp) (hF.ev rfl) (by omega) (by omega)) fun a hF => ?_
  refine sv' hF (wn rfl) rfl rfl (R.loadAO (cs := wc (u 0)) agg31 (hF.ev rfl) (hv.old hS) sz31 rfl (Nat.succ_pos _) (v0_at rfl)) fun a hF => ?_
  refine so (wn rfl) (O.call rfl rfl hF ent90 (hF.evs rfl) hS (tokenOf_calls (u 0) _ (hvM 0)) fun v s13 a w hR hF hS => ?_)
  obtain ⟨rfl, rfl⟩ := hR
  rw [if_pos ht] at hF
  refine sv' hF (wn rfl) rfl rfl (R.move (hF.ev rfl)) fun a hF => ?_
  refine sv' hF (wn rfl) rfl rfl (R.extract (hF.ev rfl) rfl) fun a hF => ?_
  refine sv' hF (wn rfl) rfl rfl (R.extract (hF.ev rfl) rfl) fun a hF => ?_
  refine sv' hF (wn rfl) rfl rfl (R.assign (hF.ev rfl)) fun a hF => ?_
  refine sv' hF (wn rfl) rfl rfl (R.assign (hF.ev rfl)) fun a hF => ?_
  refine s0 ?_
  refine then_n (hK2 _ _ ?_)
  refine wp_seq_k fun K3 hK3 => ?_
  refine wp_seq_k fun K4 hK4 => ?_
  refine wp_region_lit ?_
  refine sv' hF (wn rfl) rfl rfl (R.move (hF.ev rfl)) fun a hF => ?_
  refine sv' hF (wn rfl) rfl rfl ((by first | exact R.notD (hF.ev rfl) | exact R.not (hF.ev rfl))) fun a hF => ?_
  refine s0 ?_
  refine then_n (hK4 _ _ ?_)
  refine cF hF rfl ?_
  refine wp_skip ?_
  refine then_n (hK3 _ _ ?_)
  refine wp_seq_k fun K5 hK5 => ?_
  refine wp_drawN hS (hS.sel [1] rfl rfl) [(0, 0), (1, 0), (2, 0), (3, 1), (4, 0), (5, 0), (6, 0), (7, 1), (9, 0), (10, 0), (8, 2), (11, 2), (12, 0), (13, 0), (14, 0), (15, 2), (16, 2), (17, 0)] (.node [(0, 0), (1, 0), (2, 0), (3, 1), (4, 0), (5, 0), (6, 0), (7, 1), (9, 0), (10, 0)] (.node [(8, 2)] (.leaf [(11, 2), (12, 0), (13, 0), (14, 0), (15, 2), (16, 2), (17, 0)]) (.leaf [(15, 2), (11, 2), (12, 0), (13, 0), (14, 0), (16, 2), (17, 0)])) (.leaf [(15, 2), (8, 2), (11, 2), (12, 0), (13, 0), (14, 0), (16, 2), (17, 0)])) mix (by kernel_rfl) (hP.then) fun w hS hD => ?_
  refine dq hF rfl (wn rfl) rfl rfl (fun w => R.move (hF.ev rfl)) fun a hF => ?_
  refine dq hF rfl (wn rfl) rfl rfl (fun w => R.nilCheck (hF.ev rfl)) fun a hF => ?_
  refine dq hF rfl (wn rfl) rfl rfl (fun w => R.fieldAddr (k := 49) Try.underlying81 rfl nz78 (hF.ev rfl) rfl) fun a hF => ?_
  refine dr hF rfl (wn rfl) rfl rfl hD (fun w hD => R.load one78 (hF.ev rfl) hD .h (rfl)) fun a hF => ?_
  refine dq hF rfl (wn rfl) rfl rfl (fun w => R.move (hF.ev rfl)) fun a hF => ?_
  refine dq hF rfl (wn rfl) rfl rfl (fun w => R.move (hF.ev rfl)) fun a hF => ?_
  refine dq hF rfl (wn rfl) rfl rfl (fun w => R.indexO Try.underlying32 sz31 (hF.ev rfl) (by simp) (hF.ev rfl) (by omega) (by omega)) fun a hF => ?_
  refine dr hF rfl (wn rfl) rfl rfl hD (fun w hD => R.loadAO (cs := wc (u 1)) agg31 (hF.ev rfl) (hv.old hD) sz31 rfl (Nat.succ_pos _) (v1_at rfl)) fun a hF => ?_
  refine dq hF rfl (wn rfl) rfl rfl (fun w => R.nilCheckI (hF.ev rfl)) fun a hF => ?_
  refine dq hF rfl (wn rfl) rfl rfl (fun w => R.move (hF.ev rfl)) fun a hF => ?_
  refine d0 ?_
  refine ⟨?_, ?_⟩
  ·
    refine dl rfl (wn rfl) (O.call rfl rfl hF ent91 (hF.evs rfl) hS (address_calls (u 1) _) fun v s27 a w hR hF hS => ⟨fun hD => hS.sel [2] rfl rfl, ?_⟩)
    obtain ⟨rfl, rfl⟩ := hR
    have hD := hS.sel [2] rfl rfl
    refine d0 ?_
    refine ⟨?_, ?_⟩
    ·
      refine dl rfl (wn rfl) (O.callM rfl rfl hF (hF.ev rfl) (meth_have F.hb) ent116 (hF.evs rfl) hS (have_calls F asks _ (u 0) (u 1) _ hNX hH (hS.own1 (.t (.t (.t (.t .h))))) (hQ.down hS (.t (.t (.t (.t .h))))) (hI.down hS (.t (.t (.t (.t .h))))) hla) (fun _ => (.t (.t (.t (.t .h))))) fun v s30 a w hR hF hS => ⟨fun hD => hS.sel [2] rfl rfl, ?_⟩)
      have hD := hS.sel [2] rfl rfl
      obtain ⟨rfl, hH2⟩ := hR
      refine dq hF rfl (wn rfl) rfl rfl (fun w => R.move (hF.ev rfl)) fun a hF => ?_
      refine dq hF rfl (wn rfl) rfl rfl (fun w => R.extract (hF.ev rfl) rfl) fun a hF => ?_
      refine dq hF rfl (wn rfl) rfl rfl (fun w => R.extract (hF.ev rfl) rfl) fun a hF => ?_
      refine dl rfl (wn rfl) (O.alloc rfl rfl hF ze31 rfl hS fun b7 a w hF hS => ⟨fun hD => hS.sel [3] rfl rfl, ?_⟩)
      have hD := hS.sel [3] rfl rfl
      refine dl rfl (wn rfl) (O.storeW sz31 (hF.ev rfl) (hF.ev rfl) (rfl) rfl (by simp [Value.oneCell']) hS .h (rfl) fun w hS => ⟨fun hD => hS.sel [3] rfl rfl, ?_⟩)
      have hD := hS.sel [3] rfl rfl
      refine dq hF rfl (wn rfl) rfl rfl (fun w => R.assign (hF.ev rfl)) fun a hF => ?_
      refine d0 ?_
      refine then_n (hK5 _ _ ?_)
      refine wp_seq_k fun K6 hK6 => ?_
      refine wp_seq_k fun K7 hK7 => ?_
      refine wp_region_lit ?_
      refine sv' hF (wn rfl) rfl rfl (R.move (hF.ev rfl)) fun a hF => ?_
      refine sv' hF (wn rfl) rfl rfl (R.as (u := .bool false) (R.neq (p := (F.rep asks.length).2) (q := 0) (hF.ev rfl) (hF.ev rfl)) (congrArg Value.bool (decide_eq_false (fun h => h he)))) fun a hF => ?_
      refine s0 ?_
      refine then_n (hK7 _ _ ?_)
      refine cF hF rfl ?_
      refine wp_skip ?_
      refine then_n (hK6 _ _ ?_)
      refine wp_seq_k fun K8 hK8 => ?_
      refine wp_region_lit ?_
      refine sv' hF (wn rfl) rfl rfl (R.move (hF.ev rfl)) fun a hF => ?_
      refine sv' hF (wn rfl) rfl rfl (R.loadW agg31 (hF.ev rfl) hS .h sz31 (rfl)) fun a hF => ?_
      have hS := (hS.sel [3, 4, 5] rfl rfl).flat (bs' := [(F.rb, Cel (rcells F (.slice A stk.length c) V) 81) :: sg, s30]) (by simp [selS])
      refine so (wn rfl) (O.callK rfl rfl hF ent79 (hF.evs rfl) hS (on_calls F V stk _ ((F.rep asks.length).1) _ ⟨A, c, sg, rfl, hO⟩ (hS.own1 .h) (hl)) (fun _ => .h) fun v s38 a w hR hF hS => ?_)
      obtain ⟨rfl, hRun2⟩ := hR
      refine sv' hF (wn rfl) rfl rfl (R.assign (hF.ev rfl)) fun a hF => ?_
      refine s0 ?_
      refine then_n (hK8 _ _ ?_)
      refine wp_ret (hR _ _ _ _ _ hF (run_results Try.results75 (.t hF rfl (.nil))) ?_)
      exact ⟨_, s38 ++ s30, rfl, ⟨rfl, s38, s30, rfl, hRun2, hH2⟩, (hS.sel [0, 1] rfl rfl).flat (by simp [selS])⟩
    ·
      refine dl rfl (wn rfl) (O.alloc rfl rfl hF ze31 rfl hS fun b7 a w hF hS => ⟨fun hD => hS.sel [3] rfl rfl, ?_⟩)
      have hD := hS.sel [3] rfl rfl
      refine dl rfl (wn rfl) (O.callM rfl rfl hF (hF.ev rfl) (meth_have F.hb) ent116 (hF.evs rfl) hS (have_calls F asks _ (u 0) (u 1) _ hNX hH (hS.own1 (.t (.t (.t (.t (.t .h)))))) (hQ.down hS (.t (.t (.t (.t (.t .h)))))) (hI.down hS (.t (.t (.t (.t (.t .h)))))) hla) (fun _ => (.t (.t (.t (.t (.t .h)))))) fun v s30 a w hR hF hS => ⟨fun hD => hS.sel [3] rfl rfl, ?_⟩)
      have hD := hS.sel [3] rfl rfl
      obtain ⟨rfl, hH2⟩ := hR
      refine dq hF rfl (wn rfl) rfl rfl (fun w => R.move (hF.ev rfl)) fun a hF => ?_
      refine dq hF rfl (wn rfl) rfl rfl (fun w => R.extract (hF.ev rfl) rfl) fun a hF => ?_
      refine dq hF rfl (wn rfl) rfl rfl (fun w => R.extract (hF.ev rfl) rfl) fun a hF => ?_
      refine dl rfl (wn rfl) (O.storeW sz31 (hF.ev rfl) (hF.ev rfl) (rfl) rfl (by simp [Value.oneCell']) hS .h (rfl) fun w hS => ⟨fun hD => hS.sel [3] rfl rfl, ?_⟩)
      have hD := hS.sel [3] rfl rfl
      refine dq hF rfl (wn rfl) rfl rfl (fun w => R.assign (hF.ev rfl)) fun a hF => ?_
      refine d0 ?_
      refine then_n (hK5 _ _ ?_)
      refine wp_seq_k fun K9 hK9 => ?_
      refine wp_seq_k fun K10 hK10 => ?_
      refine wp_region_lit ?_
      refine sv' hF (wn rfl) rfl rfl (R.move (hF.ev rfl)) fun a hF => ?_
      refine sv' hF (wn rfl) rfl rfl (R.as (u := .bool false) (R.neq (p := (F.rep asks.length).2) (q := 0) (hF.ev rfl) (hF.ev rfl)) (congrArg Value.bool (decide_eq_false (fun h => h he)))) fun a hF => ?_
      refine s0 ?_
      refine then_n (hK10 _ _ ?_)
      refine cF hF rfl ?_
      refine wp_skip ?_
      refine then_n (hK9 _ _ ?_)
      refine wp_seq_k fun K11 hK11 => ?_
      refine wp_region_lit ?_
      refine sv' hF (wn rfl) rfl rfl (R.move (hF.ev rfl)) fun a hF => ?_
      refine sv' hF (wn rfl) rfl rfl (R.loadW agg31 (hF.ev rfl) hS .h sz31 (rfl)) fun a hF => ?_
      have hS := (hS.sel [3, 4, 5] rfl rfl).flat (bs' := [(F.rb, Cel (rcells F (.slice A stk.length c) V) 81) :: sg, s30]) (by simp [selS])
      refine so (wn rfl) (O.callK rfl rfl hF ent79 (hF.evs rfl) hS (on_calls F V stk _ ((F.rep asks.length).1) _ ⟨A, c, sg, rfl, hO⟩ (hS.own1 .h) (hl)) (fun _ => .h) fun v s38 a w hR hF hS => ?_)
      obtain ⟨rfl, hRun2⟩ := hR
      refine sv' hF (wn rfl) rfl rfl (R.assign (hF.ev rfl)) fun a hF => ?_
      refine s0 ?_
      refine then_n (hK11 _ _ ?_)
      refine wp_ret (hR _ _ _ _ _ hF (run_results Try.results75 (.t hF rfl (.nil))) ?_)
      exact ⟨_, s38 ++ s30, rfl, ⟨rfl, s38, s30, rfl, hRun2, hH2⟩, (hS.sel [0, 1] rfl rfl).flat (by simp [selS])⟩
  ·
    refine dl rfl (wn rfl) (O.alloc rfl rfl hF ze31 rfl hS fun b7 a w hF hS => ⟨fun hD => hS.sel [2] rfl rfl, ?_⟩)
    have hD := hS.sel [2] rfl rfl
    refine dl rfl (wn rfl) (O.call rfl rfl hF ent91 (hF.evs rfl) hS (address_calls (u 1) _) fun v s27 a w hR hF hS => ⟨fun hD => hS.sel [3] rfl rfl, ?_⟩)
    obtain ⟨rfl, rfl⟩ := hR
    have hD := hS.sel [3] rfl rfl
    refine dl rfl (wn rfl) (O.callM rfl rfl hF (hF.ev rfl) (meth_have F.hb) ent116 (hF.evs rfl) hS (have_calls F asks _ (u 0) (u 1) _ hNX hH (hS.own1 (.t (.t (.t (.t (.t .h)))))) (hQ.down hS (.t (.t (.t (.t (.t .h)))))) (hI.down hS (.t (.t (.t (.t (.t .h)))))) hla) (fun _ => (.t (.t (.t (.t (.t .h)))))) fun v s30 a w hR hF hS => ⟨fun hD => hS.sel [3] rfl rfl, ?_⟩)
    have hD := hS.sel [3] rfl rfl
    obtain ⟨rfl, hH2⟩ := hR
    refine dq hF rfl (wn rfl) rfl rfl (fun w => R.move (hF.ev rfl)) fun a hF => ?_
    refine dq hF rfl (wn rfl) rfl rfl (fun w => R.extract (hF.ev rfl) rfl) fun a hF => ?_
    refine dq hF rfl (wn rfl) rfl rfl (fun w => R.extract (hF.ev rfl) rfl) fun a hF => ?_
    refine dl rfl (wn rfl) (O.storeW sz31 (hF.ev rfl) (hF.ev rfl) (rfl) rfl (by simp [Value.oneCell']) hS (.t .h) (rfl) fun w hS => ⟨fun hD => hS.sel [3] rfl rfl, ?_⟩)
    have hD := hS.sel [3] rfl rfl
    refine dq hF rfl (wn rfl) rfl rfl (fun w => R.assign (hF.ev rfl)) fun a hF => ?_
    refine d0 ?_
    refine then_n (hK5 _ _ ?_)
    refine wp_seq_k fun K12 hK12 => ?_
    refine wp_seq_k fun K13 hK13 => ?_
    refine wp_region_lit ?_
    refine sv' hF (wn rfl) rfl rfl (R.move (hF.ev rfl)) fun a hF => ?_
    refine sv' hF (wn rfl) rfl rfl (R.as (u := .bool false) (R.neq (p := (F.rep asks.length).2) (q := 0) (hF.ev rfl) (hF.ev rfl)) (congrArg Value.bool (decide_eq_false (fun h => h he)))) fun a hF => ?_
    refine s0 ?_
    refine then_n (hK13 _ _ ?_)
    refine cF hF rfl ?_
    refine wp_skip ?_
    refine then_n (hK12 _ _ ?_)
    refine wp_seq_k fun K14 hK14 => ?_
    refine wp_region_lit ?_
    refine sv' hF (wn rfl) rfl rfl (R.move (hF.ev rfl)) fun a hF => ?_
    refine sv' hF (wn rfl) rfl rfl (R.loadW agg31 (hF.ev rfl) hS (.t .h) sz31 (rfl)) fun a hF => ?_
    have hS := (hS.sel [3, 4, 5] rfl rfl).flat (bs' := [(F.rb, Cel (rcells F (.slice A stk.length c) V) 81) :: sg, s30]) (by simp [selS])
    refine so (wn rfl) (O.callK rfl rfl hF ent79 (hF.evs rfl) hS (on_calls F V stk _ ((F.rep asks.length).1) _ ⟨A, c, sg, rfl, hO⟩ (hS.own1 .h) (hl)) (fun _ => .h) fun v s38 a w hR hF hS => ?_)
    obtain ⟨rfl, hRun2⟩ := hR
    refine sv' hF (wn rfl) rfl rfl (R.assign (hF.ev rfl)) fun a hF => ?_
    refine s0 ?_
    refine then_n (hK14 _ _ ?_)
    refine wp_ret (hR _ _ _ _ _ hF (run_results Try.results75 (.t hF rfl (.nil))) ?_)
    exact ⟨_, s38 ++ s30, rfl, ⟨rfl, s38, s30, rfl, hRun2, hH2⟩, (hS.sel [0, 1] rfl rfl).flat (by simp [selS])⟩

set_option maxHeartbeats 2000000 in
theorem send_ok (F : Fx) (V : Vr) (stk : List Nat) (asks : List Fw.Ask) (s1 s2 : Seg) (vb : Nat) (u : Nat → Nat) (w0 : World) (hNX : NextOK F) (hRun : RunS F V stk s1) (hH : HostS F asks s2) (ho : Own w0 (s1 ++ s2)) (hv : RdK w0 ((s1 ++ s2).map (·.1)) (some ⟨vb, 0, none⟩) (vc u)) (hvM : ∀ i, u i < 115792089237316195423570985008687907853269984665640564039457584007913129639936) (hQ : RdK w0 ((s1 ++ s2).map (·.1)) F.qA (F.reps.flatMap repc)) (hI : RdK w0 ((s1 ++ s2).map (·.1)) F.iA (byts F.inner)) (hl : stk.length ≤ 64) (hla : asks.length ≤ 20000) (ht : u 0 < 64) (he : (F.rep asks.length).2 = 0) : Ret Try.prog 76 [.pointer (some ⟨F.rb, 0, none⟩), .slice (some ⟨vb, 0, none⟩) 3 3] w0 ((s1 ++ s2).map (·.1)) (fun v s' => DidH F V stk (asks ++ [⟨4, u 2, 0, u 0, u 1⟩]) v s') := by
  refine fn_start Try.func76 rfl Try.ntmps76 rfl [(0, .pointer (some ⟨F.rb, 0, none⟩)), (1, .slice (some ⟨vb, 0, none⟩) 3 3)] ⟨rfl, rfl, trivial⟩ ?_
  intro Q a hP hF hR hN
  have hS := St.enter ho
  obtain ⟨A, c, sg, hs, hO⟩ := hRun; have hS := hS.flat (bs' := [[(F.rb, Cel (rcells F (.slice A stk.length c) V) 81)], sg, s2]) (by simp [hs])
  refine wp_seq_k fun K1 hK1 => ?_
  refine wp_region_lit ?_
  refine sv' hF (wn rfl) rfl rfl (R.assign (hF.ev rfl)) fun a hF => ?_
  refine s0 ?_
  refine then_n (hK1 _ _ ?_)
  refine wp_seq_k fun K2 hK2 => ?_
  refine wp_region_lit ?_
  refine sv' hF (wn rfl) rfl rfl (R.move (hF.ev rfl)) fun a hF => ?_
  refine sv' hF (wn rfl) rfl rfl (R.indexO Try.underlying32 sz31 (hF.ev rfl) (by simp) (hF.ev rfl) (by omega) (by omega)) fun a hF => ?_
  refine sv' hF (wn rfl) rfl rfl (R.loadAO (cs := wc (u 0)) agg31 (hF.ev rfl) (hv.old hS) sz31 rfl (Nat.succ_pos _) (v0_at rfl)) fun a hF => ?_
  refine so (wn rfl) (O.call rfl rfl hF ent90 (hF.evs rfl) hS (tokenOf_calls (u 0) _ (hvM 0)) fun v s11 a w hR hF hS => ?_)
  obtain ⟨rfl, rfl⟩ := hR
  rw [if_pos ht] at hF
  refine sv' hF (wn rfl) rfl rfl (R.move (hF.ev rfl)) fun a hF => ?_
  refine sv' hF (wn rfl) rfl rfl (R.extract (hF.ev rfl) rfl) fun a hF => ?_
  refine sv' hF (wn rfl) rfl rfl (R.extract (hF.ev rfl) rfl) fun a hF => ?_
  refine sv' hF (wn rfl) rfl rfl (R.assign (hF.ev rfl)) fun a hF => ?_
  refine sv' hF (wn rfl) rfl rfl (R.assign (hF.ev rfl)) fun a hF => ?_
  refine s0 ?_
  refine then_n (hK2 _ _ ?_)
  refine wp_seq_k fun K3 hK3 => ?_
  refine wp_seq_k fun K4 hK4 => ?_
  refine wp_region_lit ?_
  refine sv' hF (wn rfl) rfl rfl (R.move (hF.ev rfl)) fun a hF => ?_
  refine sv' hF (wn rfl) rfl rfl ((by first | exact R.notD (hF.ev rfl) | exact R.not (hF.ev rfl))) fun a hF => ?_
  refine s0 ?_
  refine then_n (hK4 _ _ ?_)
  refine cF hF rfl ?_
  refine wp_skip ?_
  refine then_n (hK3 _ _ ?_)
  refine wp_seq_k fun K5 hK5 => ?_
  refine wp_drawG hS (hS.sel [1] rfl rfl) [(0, 0), (1, 0), (2, 0), (3, 1), (4, 0), (5, 0), (6, 0), (7, 1), (9, 0), (10, 0), (11, 1), (12, 0), (13, 0), (8, 2), (14, 2), (15, 0)] mix (by kernel_rfl) (hP.then) fun w hS hD => ?_
  refine dq hF rfl (wn rfl) rfl rfl (fun w => R.move (hF.ev rfl)) fun a hF => ?_
  refine dq hF rfl (wn rfl) rfl rfl (fun w => R.nilCheck (hF.ev rfl)) fun a hF => ?_
  refine dq hF rfl (wn rfl) rfl rfl (fun w => R.fieldAddr (k := 49) Try.underlying81 rfl nz78 (hF.ev rfl) rfl) fun a hF => ?_
  refine dr hF rfl (wn rfl) rfl rfl hD (fun w hD => R.load one78 (hF.ev rfl) hD .h (rfl)) fun a hF => ?_
  refine dq hF rfl (wn rfl) rfl rfl (fun w => R.move (hF.ev rfl)) fun a hF => ?_
  refine dq hF rfl (wn rfl) rfl rfl (fun w => R.move (hF.ev rfl)) fun a hF => ?_
  refine dq hF rfl (wn rfl) rfl rfl (fun w => R.indexO Try.underlying32 sz31 (hF.ev rfl) (by simp) (hF.ev rfl) (by omega) (by omega)) fun a hF => ?_
  refine dr hF rfl (wn rfl) rfl rfl hD (fun w hD => R.loadAO (cs := wc (u 1)) agg31 (hF.ev rfl) (hv.old hD) sz31 rfl (Nat.succ_pos _) (v1_at rfl)) fun a hF => ?_
  refine dq hF rfl (wn rfl) rfl rfl (fun w => R.move (hF.ev rfl)) fun a hF => ?_
  refine dq hF rfl (wn rfl) rfl rfl (fun w => R.indexO Try.underlying32 sz31 (hF.ev rfl) (by simp) (hF.ev rfl) (by omega) (by omega)) fun a hF => ?_
  refine dr hF rfl (wn rfl) rfl rfl hD (fun w hD => R.loadAO (cs := wc (u 2)) agg31 (hF.ev rfl) (hv.old hD) sz31 rfl (Nat.succ_pos _) (v2_at rfl)) fun a hF => ?_
  refine dq hF rfl (wn rfl) rfl rfl (fun w => R.nilCheckI (hF.ev rfl)) fun a hF => ?_
  refine dq hF rfl (wn rfl) rfl rfl (fun w => R.move (hF.ev rfl)) fun a hF => ?_
  refine dl rfl (wn rfl) (O.call rfl rfl hF ent91 (hF.evs rfl) hS (address_calls (u 1) _) fun v s24 a w hR hF hS => ⟨fun hD => hS.sel [2] rfl rfl, ?_⟩)
  obtain ⟨rfl, rfl⟩ := hR
  have hD := hS.sel [2] rfl rfl
  refine dl rfl (wn rfl) (O.callM rfl rfl hF (hF.ev rfl) (meth_send F.hb) ent119 (hF.evs rfl) hS (send_calls F asks _ (u 0) (u 1) (u 2) _ hNX hH (hS.own1 (.t (.t (.t (.t .h))))) (hQ.down hS (.t (.t (.t (.t .h))))) (hI.down hS (.t (.t (.t (.t .h))))) hla) (fun _ => (.t (.t (.t (.t .h))))) fun v s30 a w hR hF hS => ⟨fun hD => hS.sel [2] rfl rfl, ?_⟩)
  have hD := hS.sel [2] rfl rfl
  obtain ⟨rfl, hH2⟩ := hR
  refine dq hF rfl (wn rfl) rfl rfl (fun w => R.assign (hF.ev rfl)) fun a hF => ?_
  refine d0 ?_
  refine then_n (hK5 _ _ ?_)
  refine wp_ret (hR _ _ _ _ _ hF (run_results Try.results76 (.t hF rfl (.nil))) ?_)
  rw [he]
  exact ⟨_, ((F.rb, Cel (rcells F (.slice A stk.length c) V) 81) :: sg) ++ s30, rfl, ⟨rfl, _, s30, rfl, ⟨A, c, sg, rfl, hO⟩, hH2⟩, (hS.sel [2, 3, 4] rfl rfl).flat (by simp [selS])⟩

set_option maxHeartbeats 2000000 in
theorem have_err (F : Fx) (V : Vr) (stk : List Nat) (asks : List Fw.Ask) (s1 s2 : Seg) (vb : Nat) (u : Nat → Nat) (w0 : World) (hNX : NextOK F) (hRun : RunS F V stk s1) (hH : HostS F asks s2) (ho : Own w0 (s1 ++ s2)) (hv : RdK w0 ((s1 ++ s2).map (·.1)) (some ⟨vb, 0, none⟩) (vc u)) (hvM : ∀ i, u i < 115792089237316195423570985008687907853269984665640564039457584007913129639936) (hQ : RdK w0 ((s1 ++ s2).map (·.1)) F.qA (F.reps.flatMap repc)) (hI : RdK w0 ((s1 ++ s2).map (·.1)) F.iA (byts F.inner)) (hl : stk.length ≤ 64) (hla : asks.length ≤ 20000) (ht : u 0 < 64) (he : ¬ (F.rep asks.length).2 = 0) : Ret Try.prog 75 [.pointer (some ⟨F.rb, 0, none⟩), .slice (some ⟨vb, 0, none⟩) 2 3] w0 ((s1 ++ s2).map (·.1)) (fun v s' => ErrH F (asks ++ [⟨3, 0, 0, u 0, u 1⟩]) (F.rep asks.length).2 v s') := by
  refine fn_start Try.func75 rfl Try.ntmps75 rfl [(0, .pointer (some ⟨F.rb, 0, none⟩)), (1, .slice (some ⟨vb, 0, none⟩) 2 3)] ⟨rfl, rfl, trivial⟩ ?_
  intro Q a hP hF hR hN
  have hS := St.enter ho
  obtain ⟨A, c, sg, hs, hO⟩ := hRun; have hS := hS.flat (bs' := [[(F.rb, Cel (rcells F (.slice A stk.length c) V) 81)], sg, s2]) (by simp [hs])
  refine wp_seq_k fun K1 hK1 => ?_
  refine wp_region_lit ?_
  refine sv' hF (wn rfl) rfl rfl (R.assign (hF.ev rfl)) fun a hF => ?_
  refine s0 ?_
  refine then_n (hK1 _ _ ?_)
  refine wp_seq_k fun K2 hK2 => ?_
  refine wp_region_lit ?_
  refine sv' hF (wn rfl) rfl rfl (R.move (hF.ev rfl)) fun a hF => ?_
  refine sv' hF (wn rfl) rfl rfl (R.indexO Try.underlying32 sz31 (hF.ev rfl) (by simp) (hF.ev rfl) (by omega) (by omega)) fun a hF => ?_
  refine sv' hF (wn rfl) rfl rfl (R.loadAO (cs := wc (u 0)) agg31 (hF.ev rfl) (hv.old hS) sz31 rfl (Nat.succ_pos _) (v0_at rfl)) fun a hF => ?_
  refine so (wn rfl) (O.call rfl rfl hF ent90 (hF.evs rfl) hS (tokenOf_calls (u 0) _ (hvM 0)) fun v s13 a w hR hF hS => ?_)
  obtain ⟨rfl, rfl⟩ := hR
  rw [if_pos ht] at hF
  refine sv' hF (wn rfl) rfl rfl (R.move (hF.ev rfl)) fun a hF => ?_
  refine sv' hF (wn rfl) rfl rfl (R.extract (hF.ev rfl) rfl) fun a hF => ?_
  refine sv' hF (wn rfl) rfl rfl (R.extract (hF.ev rfl) rfl) fun a hF => ?_
  refine sv' hF (wn rfl) rfl rfl (R.assign (hF.ev rfl)) fun a hF => ?_
  refine sv' hF (wn rfl) rfl rfl (R.assign (hF.ev rfl)) fun a hF => ?_
  refine s0 ?_
  refine then_n (hK2 _ _ ?_)
  refine wp_seq_k fun K3 hK3 => ?_
  refine wp_seq_k fun K4 hK4 => ?_
  refine wp_region_lit ?_
  refine sv' hF (wn rfl) rfl rfl (R.move (hF.ev rfl)) fun a hF => ?_
  refine sv' hF (wn rfl) rfl rfl ((by first | exact R.notD (hF.ev rfl) | exact R.not (hF.ev rfl))) fun a hF => ?_
  refine s0 ?_
  refine then_n (hK4 _ _ ?_)
  refine cF hF rfl ?_
  refine wp_skip ?_
  refine then_n (hK3 _ _ ?_)
  refine wp_seq_k fun K5 hK5 => ?_
  refine wp_drawN hS (hS.sel [1] rfl rfl) [(0, 0), (1, 0), (2, 0), (3, 1), (4, 0), (5, 0), (6, 0), (7, 1), (9, 0), (10, 0), (8, 2), (11, 2), (12, 0), (13, 0), (14, 0), (15, 2), (16, 2), (17, 0)] (.node [(0, 0), (1, 0), (2, 0), (3, 1), (4, 0), (5, 0), (6, 0), (7, 1), (9, 0), (10, 0)] (.node [(8, 2)] (.leaf [(11, 2), (12, 0), (13, 0), (14, 0), (15, 2), (16, 2), (17, 0)]) (.leaf [(15, 2), (11, 2), (12, 0), (13, 0), (14, 0), (16, 2), (17, 0)])) (.leaf [(15, 2), (8, 2), (11, 2), (12, 0), (13, 0), (14, 0), (16, 2), (17, 0)])) mix (by kernel_rfl) (hP.then) fun w hS hD => ?_
  refine dq hF rfl (wn rfl) rfl rfl (fun w => R.move (hF.ev rfl)) fun a hF => ?_
  refine dq hF rfl (wn rfl) rfl rfl (fun w => R.nilCheck (hF.ev rfl)) fun a hF => ?_
  refine dq hF rfl (wn rfl) rfl rfl (fun w => R.fieldAddr (k := 49) Try.underlying81 rfl nz78 (hF.ev rfl) rfl) fun a hF => ?_
  refine dr hF rfl (wn rfl) rfl rfl hD (fun w hD => R.load one78 (hF.ev rfl) hD .h (rfl)) fun a hF => ?_
  refine dq hF rfl (wn rfl) rfl rfl (fun w => R.move (hF.ev rfl)) fun a hF => ?_
  refine dq hF rfl (wn rfl) rfl rfl (fun w => R.move (hF.ev rfl)) fun a hF => ?_
  refine dq hF rfl (wn rfl) rfl rfl (fun w => R.indexO Try.underlying32 sz31 (hF.ev rfl) (by simp) (hF.ev rfl) (by omega) (by omega)) fun a hF => ?_
  refine dr hF rfl (wn rfl) rfl rfl hD (fun w hD => R.loadAO (cs := wc (u 1)) agg31 (hF.ev rfl) (hv.old hD) sz31 rfl (Nat.succ_pos _) (v1_at rfl)) fun a hF => ?_
  refine dq hF rfl (wn rfl) rfl rfl (fun w => R.nilCheckI (hF.ev rfl)) fun a hF => ?_
  refine dq hF rfl (wn rfl) rfl rfl (fun w => R.move (hF.ev rfl)) fun a hF => ?_
  refine d0 ?_
  refine ⟨?_, ?_⟩
  ·
    refine dl rfl (wn rfl) (O.call rfl rfl hF ent91 (hF.evs rfl) hS (address_calls (u 1) _) fun v s27 a w hR hF hS => ⟨fun hD => hS.sel [2] rfl rfl, ?_⟩)
    obtain ⟨rfl, rfl⟩ := hR
    have hD := hS.sel [2] rfl rfl
    refine d0 ?_
    refine ⟨?_, ?_⟩
    ·
      refine dl rfl (wn rfl) (O.callM rfl rfl hF (hF.ev rfl) (meth_have F.hb) ent116 (hF.evs rfl) hS (have_calls F asks _ (u 0) (u 1) _ hNX hH (hS.own1 (.t (.t (.t (.t .h))))) (hQ.down hS (.t (.t (.t (.t .h))))) (hI.down hS (.t (.t (.t (.t .h))))) hla) (fun _ => (.t (.t (.t (.t .h))))) fun v s30 a w hR hF hS => ⟨fun hD => hS.sel [2] rfl rfl, ?_⟩)
      have hD := hS.sel [2] rfl rfl
      obtain ⟨rfl, hH2⟩ := hR
      refine dq hF rfl (wn rfl) rfl rfl (fun w => R.move (hF.ev rfl)) fun a hF => ?_
      refine dq hF rfl (wn rfl) rfl rfl (fun w => R.extract (hF.ev rfl) rfl) fun a hF => ?_
      refine dq hF rfl (wn rfl) rfl rfl (fun w => R.extract (hF.ev rfl) rfl) fun a hF => ?_
      refine dl rfl (wn rfl) (O.alloc rfl rfl hF ze31 rfl hS fun b7 a w hF hS => ⟨fun hD => hS.sel [3] rfl rfl, ?_⟩)
      have hD := hS.sel [3] rfl rfl
      refine dl rfl (wn rfl) (O.storeW sz31 (hF.ev rfl) (hF.ev rfl) (rfl) rfl (by simp [Value.oneCell']) hS .h (rfl) fun w hS => ⟨fun hD => hS.sel [3] rfl rfl, ?_⟩)
      have hD := hS.sel [3] rfl rfl
      refine dq hF rfl (wn rfl) rfl rfl (fun w => R.assign (hF.ev rfl)) fun a hF => ?_
      refine d0 ?_
      refine then_n (hK5 _ _ ?_)
      refine wp_seq_k fun K6 hK6 => ?_
      refine wp_seq_k fun K7 hK7 => ?_
      refine wp_region_lit ?_
      refine sv' hF (wn rfl) rfl rfl (R.move (hF.ev rfl)) fun a hF => ?_
      refine sv' hF (wn rfl) rfl rfl (R.as (u := .bool true) (R.neq (p := (F.rep asks.length).2) (q := 0) (hF.ev rfl) (hF.ev rfl)) (congrArg Value.bool (decide_eq_true he))) fun a hF => ?_
      refine s0 ?_
      refine then_n (hK7 _ _ ?_)
      refine cT hF rfl ?_
      refine wp_seq_k fun K8 hK8 => ?_
      refine wp_region_lit ?_
      refine sv' hF (wn rfl) rfl rfl (R.move (hF.ev rfl)) fun a hF => ?_
      refine sv' hF (wn rfl) rfl rfl (R.assign (hF.ev rfl)) fun a hF => ?_
      refine s0 ?_
      refine then_n (hK8 _ _ ?_)
      refine wp_ret (then_r (hR _ _ _ _ _ hF (run_results Try.results75 (.t hF rfl (.nil))) ?_))
      exact ⟨_, s30, rfl, ⟨rfl, [], s30, rfl, hH2⟩, hS.one (.t (.t (.t (.t (.t .h)))))⟩
    ·
      refine dl rfl (wn rfl) (O.alloc rfl rfl hF ze31 rfl hS fun b7 a w hF hS => ⟨fun hD => hS.sel [3] rfl rfl, ?_⟩)
      have hD := hS.sel [3] rfl rfl
      refine dl rfl (wn rfl) (O.callM rfl rfl hF (hF.ev rfl) (meth_have F.hb) ent116 (hF.evs rfl) hS (have_calls F asks _ (u 0) (u 1) _ hNX hH (hS.own1 (.t (.t (.t (.t (.t .h)))))) (hQ.down hS (.t (.t (.t (.t (.t .h)))))) (hI.down hS (.t (.t (.t (.t (.t .h)))))) hla) (fun _ => (.t (.t (.t (.t (.t .h)))))) fun v s30 a w hR hF hS => ⟨fun hD => hS.sel [3] rfl rfl, ?_⟩)
      have hD := hS.sel [3] rfl rfl
      obtain ⟨rfl, hH2⟩ := hR
      refine dq hF rfl (wn rfl) rfl rfl (fun w => R.move (hF.ev rfl)) fun a hF => ?_
      refine dq hF rfl (wn rfl) rfl rfl (fun w => R.extract (hF.ev rfl) rfl) fun a hF => ?_
      refine dq hF rfl (wn rfl) rfl rfl (fun w => R.extract (hF.ev rfl) rfl) fun a hF => ?_
      refine dl rfl (wn rfl) (O.storeW sz31 (hF.ev rfl) (hF.ev rfl) (rfl) rfl (by simp [Value.oneCell']) hS .h (rfl) fun w hS => ⟨fun hD => hS.sel [3] rfl rfl, ?_⟩)
      have hD := hS.sel [3] rfl rfl
      refine dq hF rfl (wn rfl) rfl rfl (fun w => R.assign (hF.ev rfl)) fun a hF => ?_
      refine d0 ?_
      refine then_n (hK5 _ _ ?_)
      refine wp_seq_k fun K9 hK9 => ?_
      refine wp_seq_k fun K10 hK10 => ?_
      refine wp_region_lit ?_
      refine sv' hF (wn rfl) rfl rfl (R.move (hF.ev rfl)) fun a hF => ?_
      refine sv' hF (wn rfl) rfl rfl (R.as (u := .bool true) (R.neq (p := (F.rep asks.length).2) (q := 0) (hF.ev rfl) (hF.ev rfl)) (congrArg Value.bool (decide_eq_true he))) fun a hF => ?_
      refine s0 ?_
      refine then_n (hK10 _ _ ?_)
      refine cT hF rfl ?_
      refine wp_seq_k fun K11 hK11 => ?_
      refine wp_region_lit ?_
      refine sv' hF (wn rfl) rfl rfl (R.move (hF.ev rfl)) fun a hF => ?_
      refine sv' hF (wn rfl) rfl rfl (R.assign (hF.ev rfl)) fun a hF => ?_
      refine s0 ?_
      refine then_n (hK11 _ _ ?_)
      refine wp_ret (then_r (hR _ _ _ _ _ hF (run_results Try.results75 (.t hF rfl (.nil))) ?_))
      exact ⟨_, s30, rfl, ⟨rfl, [], s30, rfl, hH2⟩, hS.one (.t (.t (.t (.t (.t .h)))))⟩
  ·
    refine dl rfl (wn rfl) (O.alloc rfl rfl hF ze31 rfl hS fun b7 a w hF hS => ⟨fun hD => hS.sel [2] rfl rfl, ?_⟩)
    have hD := hS.sel [2] rfl rfl
    refine dl rfl (wn rfl) (O.call rfl rfl hF ent91 (hF.evs rfl) hS (address_calls (u 1) _) fun v s27 a w hR hF hS => ⟨fun hD => hS.sel [3] rfl rfl, ?_⟩)
    obtain ⟨rfl, rfl⟩ := hR
    have hD := hS.sel [3] rfl rfl
    refine dl rfl (wn rfl) (O.callM rfl rfl hF (hF.ev rfl) (meth_have F.hb) ent116 (hF.evs rfl) hS (have_calls F asks _ (u 0) (u 1) _ hNX hH (hS.own1 (.t (.t (.t (.t (.t .h)))))) (hQ.down hS (.t (.t (.t (.t (.t .h)))))) (hI.down hS (.t (.t (.t (.t (.t .h)))))) hla) (fun _ => (.t (.t (.t (.t (.t .h)))))) fun v s30 a w hR hF hS => ⟨fun hD => hS.sel [3] rfl rfl, ?_⟩)
    have hD := hS.sel [3] rfl rfl
    obtain ⟨rfl, hH2⟩ := hR
    refine dq hF rfl (wn rfl) rfl rfl (fun w => R.move (hF.ev rfl)) fun a hF => ?_
    refine dq hF rfl (wn rfl) rfl rfl (fun w => R.extract (hF.ev rfl) rfl) fun a hF => ?_
    refine dq hF rfl (wn rfl) rfl rfl (fun w => R.extract (hF.ev rfl) rfl) fun a hF => ?_
    refine dl rfl (wn rfl) (O.storeW sz31 (hF.ev rfl) (hF.ev rfl) (rfl) rfl (by simp [Value.oneCell']) hS (.t .h) (rfl) fun w hS => ⟨fun hD => hS.sel [3] rfl rfl, ?_⟩)
    have hD := hS.sel [3] rfl rfl
    refine dq hF rfl (wn rfl) rfl rfl (fun w => R.assign (hF.ev rfl)) fun a hF => ?_
    refine d0 ?_
    refine then_n (hK5 _ _ ?_)
    refine wp_seq_k fun K12 hK12 => ?_
    refine wp_seq_k fun K13 hK13 => ?_
    refine wp_region_lit ?_
    refine sv' hF (wn rfl) rfl rfl (R.move (hF.ev rfl)) fun a hF => ?_
    refine sv' hF (wn rfl) rfl rfl (R.as (u := .bool true) (R.neq (p := (F.rep asks.length).2) (q := 0) (hF.ev rfl) (hF.ev rfl)) (congrArg Value.bool (decide_eq_true he))) fun a hF => ?_
    refine s0 ?_
    refine then_n (hK13 _ _ ?_)
    refine cT hF rfl ?_
    refine wp_seq_k fun K14 hK14 => ?_
    refine wp_region_lit ?_
    refine sv' hF (wn rfl) rfl rfl (R.move (hF.ev rfl)) fun a hF => ?_
    refine sv' hF (wn rfl) rfl rfl (R.assign (hF.ev rfl)) fun a hF => ?_
    refine s0 ?_
    refine then_n (hK14 _ _ ?_)
    refine wp_ret (then_r (hR _ _ _ _ _ hF (run_results Try.results75 (.t hF rfl (.nil))) ?_))
    exact ⟨_, s30, rfl, ⟨rfl, [], s30, rfl, hH2⟩, hS.one (.t (.t (.t (.t (.t .h)))))⟩

set_option maxHeartbeats 2000000 in
theorem send_err (F : Fx) (V : Vr) (stk : List Nat) (asks : List Fw.Ask) (s1 s2 : Seg) (vb : Nat) (u : Nat → Nat) (w0 : World) (hNX : NextOK F) (hRun : RunS F V stk s1) (hH : HostS F asks s2) (ho : Own w0 (s1 ++ s2)) (hv : RdK w0 ((s1 ++ s2).map (·.1)) (some ⟨vb, 0, none⟩) (vc u)) (hvM : ∀ i, u i < 115792089237316195423570985008687907853269984665640564039457584007913129639936) (hQ : RdK w0 ((s1 ++ s2).map (·.1)) F.qA (F.reps.flatMap repc)) (hI : RdK w0 ((s1 ++ s2).map (·.1)) F.iA (byts F.inner)) (hl : stk.length ≤ 64) (hla : asks.length ≤ 20000) (ht : u 0 < 64) (he : ¬ (F.rep asks.length).2 = 0) : Ret Try.prog 76 [.pointer (some ⟨F.rb, 0, none⟩), .slice (some ⟨vb, 0, none⟩) 3 3] w0 ((s1 ++ s2).map (·.1)) (fun v s' => ErrH F (asks ++ [⟨4, u 2, 0, u 0, u 1⟩]) (F.rep asks.length).2 v s') := by
  refine fn_start Try.func76 rfl Try.ntmps76 rfl [(0, .pointer (some ⟨F.rb, 0, none⟩)), (1, .slice (some ⟨vb, 0, none⟩) 3 3)] ⟨rfl, rfl, trivial⟩ ?_
  intro Q a hP hF hR hN
  have hS := St.enter ho
  obtain ⟨A, c, sg, hs, hO⟩ := hRun; have hS := hS.flat (bs' := [[(F.rb, Cel (rcells F (.slice A stk.length c) V) 81)], sg, s2]) (by simp [hs])
  refine wp_seq_k fun K1 hK1 => ?_
  refine wp_region_lit ?_
  refine sv' hF (wn rfl) rfl rfl (R.assign (hF.ev rfl)) fun a hF => ?_
  refine s0 ?_
  refine then_n (hK1 _ _ ?_)
  refine wp_seq_k fun K2 hK2 => ?_
  refine wp_region_lit ?_
  refine sv' hF (wn rfl) rfl rfl (R.move (hF.ev rfl)) fun a hF => ?_
  refine sv' hF (wn rfl) rfl rfl (R.indexO Try.underlying32 sz31 (hF.ev rfl) (by simp) (hF.ev rfl) (by omega) (by omega)) fun a hF => ?_
  refine sv' hF (wn rfl) rfl rfl (R.loadAO (cs := wc (u 0)) agg31 (hF.ev rfl) (hv.old hS) sz31 rfl (Nat.succ_pos _) (v0_at rfl)) fun a hF => ?_
  refine so (wn rfl) (O.call rfl rfl hF ent90 (hF.evs rfl) hS (tokenOf_calls (u 0) _ (hvM 0)) fun v s11 a w hR hF hS => ?_)
  obtain ⟨rfl, rfl⟩ := hR
  rw [if_pos ht] at hF
  refine sv' hF (wn rfl) rfl rfl (R.move (hF.ev rfl)) fun a hF => ?_
  refine sv' hF (wn rfl) rfl rfl (R.extract (hF.ev rfl) rfl) fun a hF => ?_
  refine sv' hF (wn rfl) rfl rfl (R.extract (hF.ev rfl) rfl) fun a hF => ?_
  refine sv' hF (wn rfl) rfl rfl (R.assign (hF.ev rfl)) fun a hF => ?_
  refine sv' hF (wn rfl) rfl rfl (R.assign (hF.ev rfl)) fun a hF => ?_
  refine s0 ?_
  refine then_n (hK2 _ _ ?_)
  refine wp_seq_k fun K3 hK3 => ?_
  refine wp_seq_k fun K4 hK4 => ?_
  refine wp_region_lit ?_
  refine sv' hF (wn rfl) rfl rfl (R.move (hF.ev rfl)) fun a hF => ?_
  refine sv' hF (wn rfl) rfl rfl ((by first | exact R.notD (hF.ev rfl) | exact R.not (hF.ev rfl))) fun a hF => ?_
  refine s0 ?_
  refine then_n (hK4 _ _ ?_)
  refine cF hF rfl ?_
  refine wp_skip ?_
  refine then_n (hK3 _ _ ?_)
  refine wp_seq_k fun K5 hK5 => ?_
  refine wp_drawG hS (hS.sel [1] rfl rfl) [(0, 0), (1, 0), (2, 0), (3, 1), (4, 0), (5, 0), (6, 0), (7, 1), (9, 0), (10, 0), (11, 1), (12, 0), (13, 0), (8, 2), (14, 2), (15, 0)] mix (by kernel_rfl) (hP.then) fun w hS hD => ?_
  refine dq hF rfl (wn rfl) rfl rfl (fun w => R.move (hF.ev rfl)) fun a hF => ?_
  refine dq hF rfl (wn rfl) rfl rfl (fun w => R.nilCheck (hF.ev rfl)) fun a hF => ?_
  refine dq hF rfl (wn rfl) rfl rfl (fun w => R.fieldAddr (k := 49) Try.underlying81 rfl nz78 (hF.ev rfl) rfl) fun a hF => ?_
  refine dr hF rfl (wn rfl) rfl rfl hD (fun w hD => R.load one78 (hF.ev rfl) hD .h (rfl)) fun a hF => ?_
  refine dq hF rfl (wn rfl) rfl rfl (fun w => R.move (hF.ev rfl)) fun a hF => ?_
  refine dq hF rfl (wn rfl) rfl rfl (fun w => R.move (hF.ev rfl)) fun a hF => ?_
  refine dq hF rfl (wn rfl) rfl rfl (fun w => R.indexO Try.underlying32 sz31 (hF.ev rfl) (by simp) (hF.ev rfl) (by omega) (by omega)) fun a hF => ?_
  refine dr hF rfl (wn rfl) rfl rfl hD (fun w hD => R.loadAO (cs := wc (u 1)) agg31 (hF.ev rfl) (hv.old hD) sz31 rfl (Nat.succ_pos _) (v1_at rfl)) fun a hF => ?_
  refine dq hF rfl (wn rfl) rfl rfl (fun w => R.move (hF.ev rfl)) fun a hF => ?_
  refine dq hF rfl (wn rfl) rfl rfl (fun w => R.indexO Try.underlying32 sz31 (hF.ev rfl) (by simp) (hF.ev rfl) (by omega) (by omega)) fun a hF => ?_
  refine dr hF rfl (wn rfl) rfl rfl hD (fun w hD => R.loadAO (cs := wc (u 2)) agg31 (hF.ev rfl) (hv.old hD) sz31 rfl (Nat.succ_pos _) (v2_at rfl)) fun a hF => ?_
  refine dq hF rfl (wn rfl) rfl rfl (fun w => R.nilCheckI (hF.ev rfl)) fun a hF => ?_
  refine dq hF rfl (wn rfl) rfl rfl (fun w => R.move (hF.ev rfl)) fun a hF => ?_
  refine dl rfl (wn rfl) (O.call rfl rfl hF ent91 (hF.evs rfl) hS (address_calls (u 1) _) fun v s24 a w hR hF hS => ⟨fun hD => hS.sel [2] rfl rfl, ?_⟩)
  obtain ⟨rfl, rfl⟩ := hR
  have hD := hS.sel [2] rfl rfl
  refine dl rfl (wn rfl) (O.callM rfl rfl hF (hF.ev rfl) (meth_send F.hb) ent119 (hF.evs rfl) hS (send_calls F asks _ (u 0) (u 1) (u 2) _ hNX hH (hS.own1 (.t (.t (.t (.t .h))))) (hQ.down hS (.t (.t (.t (.t .h))))) (hI.down hS (.t (.t (.t (.t .h))))) hla) (fun _ => (.t (.t (.t (.t .h))))) fun v s30 a w hR hF hS => ⟨fun hD => hS.sel [2] rfl rfl, ?_⟩)
  have hD := hS.sel [2] rfl rfl
  obtain ⟨rfl, hH2⟩ := hR
  refine dq hF rfl (wn rfl) rfl rfl (fun w => R.assign (hF.ev rfl)) fun a hF => ?_
  refine d0 ?_
  refine then_n (hK5 _ _ ?_)
  refine wp_ret (hR _ _ _ _ _ hF (run_results Try.results76 (.t hF rfl (.nil))) ?_)
  exact ⟨_, s30, rfl, ⟨rfl, [], s30, rfl, hH2⟩, hS.one (.t (.t (.t (.t .h))))⟩

end Go.Proofs.Ytlapmbkfmbkdoaa
