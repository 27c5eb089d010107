/- The calls of maps.Clone and of a vault's Copy. -/
import Derived.Test.YthgecfjpacebeaaAe
namespace Go.Proofs.Ythgecfjpacebeaa
open Go Go.Fw Go.RowKit
attribute [local irreducible] Go.Oper.wp Go.Code.wp Go.wpList Go.Fw.WL Go.Calls
section
variable {ρ : Operand → Value} {dst : Option Tmp} {ty : TypeId} {pos : String} {af : Array Edge} {g : Option (Nat × Bool)} {x : Operand} {w w0 : World} {T T' K E : TypeId} {v : Value} {P : Program}
theorem R.mkIfaceM (hT : P.underlying T = some (.map K E)) (hx : ρ x = v) : (execOp ρ ⟨dst, .makeInterface T x, ty, pos, af, g⟩).run P w = .ok (.value (.iface T v)) w := by
  simp only [execOp, hx, Instr.makeInterface, Sem.run_bind, run_underlying hT, Result.andThen_ok, Sem.run_pure]
theorem R.assertM (hT : P.underlying T = some (.map K E)) (hx : ρ x = .iface T v) : (execOp ρ ⟨dst, .typeAssert x T' T false, ty, pos, af, g⟩).run P w = .ok (.value v) w := by
  simp only [execOp, hx, Instr.typeAssert, Sem.run_bind, run_underlying hT, Result.andThen_ok, Sem.run_pure, if_true, Bool.false_eq_true, if_false]
theorem run_clone {b : Nat} {es : Array MapEntry} {c : Nat} (hb : w.heap[b]? = some (.map es c)) : (Extern.MapsClone.clone #[.iface T (.map (some b))]).run P w = .ok (.iface T (.map (some w.heap.size))) (w.alloc (.map es c)) := by
  have e : Extern.MapsClone.clone #[.iface T (.map (some b))] = (getObj b >>= fun o => match o with
      | .map entries clock => (newObj (.map entries clock) >>= fun n => pure (.iface T (.map (some n))))
      | _ => stuck "maps.clone: a map expected") := rfl
  rw [e]
  simp [MapKept.run_getObj_map hb, Result.andThen, go_sem]
theorem O.mapsClone {a : Act} {K : Act → World → Prop} {Q : Exit → Act → World → Prop} {n d : Nat} {env : Env} {xs : List Operand} {tys : Array TypeId} {b : Nat} {es : Array MapEntry} {c : Nat} {ks : List Nat} {bs : List Seg} (hd : dst = some d) (hn : Nat.blt d n = true) (hF : Fr n env a)
    (hx : xs.map a.eval = [.iface T (.map (some b))]) (hS : St w0 ks bs w) (hb : w.heap[b]? = some (.map es c))
    (h : ∀ nb a' w', Fr n ((d, .iface T (.map (some nb))) :: env) a' → St w0 ks ([(nb, .map es c)] :: bs) w' → K a' w') : Oper.wp Try.prog ⟨dst, .call ⟨.value (.func 108), xs.toArray, tys⟩, ty, pos, af, g⟩ a w K Q := by
  subst hd
  unfold Oper.wp
  rw [run_call hx, run_callFunc_extern Try.func108 (by kernel_rfl) (by kernel_rfl) (by kernel_rfl) (e := Extern.MapsClone.clone) (by kernel_rfl), run_clone hb]
  simp only [Result.andThen]
  rw [Oper.upon_value]
  exact h _ _ _ (hF.put hn _) (hS.alloc _)
/-- What was given is as it was: nothing has turned. -/
theorem St.same {s sn : Seg} (h : St w0 (s.map (·.1)) [s, sn] w) (ho : Own w0 s) : St w0 [] [sn] w := by
  have hn := h.nodup
  simp only [keys, List.flatten_cons, List.flatten_nil, List.append_nil, List.map_append, List.nodup_append] at hn
  refine ⟨h.os, h.tape, h.output, h.size, ?_, fun p hp => h.own p (by simp at hp; simp [hp]), ?_, by simpa [keys] using hn.2.1⟩
  · intro k hk _
    by_cases hks : k ∈ s.map (·.1)
    · obtain ⟨p, hp, rfl⟩ := List.mem_map.1 hks
      rw [h.own p (by simp [hp]), ho.1 p hp]
    · exact h.keep k hk hks
  · intro p hp
    have hp' : p ∈ sn := by simpa using hp
    rcases h.place p (by simp [hp']) with h1 | h1
    · exact .inl h1
    · exact absurd rfl (hn.2.2 _ h1 _ (List.mem_map_of_mem hp'))
end

theorem clone95_calls (b : Nat) (es : Array MapEntry) (c : Nat) (w0 : World) (hb : w0.heap[b]? = some (.map es c)) : Ret Try.prog 88 [.map (some b)] w0 [] (fun v s => ∃ nb, v = .map (some nb) ∧ s = [(nb, .map es c)]) := by
  refine fn_start Try.func88 rfl Try.ntmps88 rfl [(0, .map (some b))] ⟨rfl, trivial⟩ ?_
  intro Q a hP hF hR hN
  have hS := St.start w0
  refine wp_seq_k fun K1 hK1 => ?_
  refine wp_region_lit ?_
  refine sv' hF (wn rfl) rfl rfl (R.assign (hF.ev rfl)) fun a hF => ?_
  refine s0 ?_
  refine then_n (hK1 _ _ ?_)
  refine wp_seq_k fun K2 hK2 => ?_
  refine wp_seq_k fun K3 hK3 => ?_
  refine wp_region_lit ?_
  refine sv' hF (wn rfl) rfl rfl (R.move (hF.ev rfl)) fun a hF => ?_
  refine sv' hF (wn rfl) rfl rfl (R.as (R.nilM (hF.ev rfl) (hF.ev rfl) Try.underlying95) (show Value.bool (decide (some b = none)) = .bool false from rfl)) fun a hF => ?_
  refine s0 ?_
  refine then_n (hK3 _ _ ?_)
  refine cS hF rfl (fun c1 => ?_) (fun c1 => ?_)
  ·
    exact absurd c1 (by decide)
  ·
    refine wp_skip ?_
    refine then_n (hK2 _ _ ?_)
    refine wp_seq_k fun K4 hK4 => ?_
    refine wp_region_lit ?_
    refine sv' hF (wn rfl) rfl rfl (R.move (hF.ev rfl)) fun a hF => ?_
    refine sv' hF (wn rfl) rfl rfl (R.mkIfaceM Try.underlying95 (hF.ev rfl)) fun a hF => ?_
    refine so (wn rfl) (O.mapsClone rfl rfl hF (hF.evs rfl) hS hb fun nb a w hF hS => ?_)
    refine sv' hF (wn rfl) rfl rfl (R.assertM Try.underlying95 (hF.ev rfl)) fun a hF => ?_
    refine sv' hF (wn rfl) rfl rfl (R.assign (hF.ev rfl)) fun a hF => ?_
    refine s0 ?_
    refine then_n (hK4 _ _ ?_)
    refine wp_ret (hR _ _ _ _ _ hF (run_results Try.results88 (.t hF rfl (.nil))) ?_)
    exact ⟨_, [(nb, .map es c)], rfl, ⟨nb, rfl, rfl⟩, hS⟩

theorem clone96_calls (r : Option Nat) (sp : Seg) (f : Int → Bool) (w0 : World) (hPp : PaidS r sp f) (hsp : ∀ p ∈ sp, w0.heap[p.1]? = some p.2) : Ret Try.prog 89 [.map r] w0 [] (fun v s => ∃ r', v = .map r' ∧ PaidS r' s f) := by
  refine fn_start Try.func89 rfl Try.ntmps89 rfl [(0, .map r)] ⟨rfl, trivial⟩ ?_
  intro Q a hP hF hR hN
  have hS := St.start w0
  refine wp_seq_k fun K1 hK1 => ?_
  refine wp_region_lit ?_
  refine sv' hF (wn rfl) rfl rfl (R.assign (hF.ev rfl)) fun a hF => ?_
  refine s0 ?_
  refine then_n (hK1 _ _ ?_)
  refine wp_seq_k fun K2 hK2 => ?_
  refine wp_seq_k fun K3 hK3 => ?_
  refine wp_region_lit ?_
  refine sv' hF (wn rfl) rfl rfl (R.move (hF.ev rfl)) fun a hF => ?_
  refine sv' hF (wn rfl) rfl rfl (R.nilM (hF.ev rfl) (hF.ev rfl) Try.underlying96) fun a hF => ?_
  refine s0 ?_
  refine then_n (hK3 _ _ ?_)
  refine cD hF rfl (fun c1 => ?_) (fun c1 => ?_)
  ·
    subst c1
    refine wp_seq_k fun K4 hK4 => ?_
    refine wp_region_lit ?_
    refine sv' hF (wn rfl) rfl rfl (R.assign (hF.ev rfl)) fun a hF => ?_
    refine s0 ?_
    refine then_n (hK4 _ _ ?_)
    refine wp_ret (then_r (hR _ _ _ _ _ hF (run_results Try.results89 (.t hF rfl (.nil))) ?_))
    exact ⟨_, [], rfl, ⟨none, rfl, .inl ⟨rfl, rfl, (hPp.resolve_right (by rintro ⟨b, es, c, h, _⟩; exact absurd h (by simp))).2.2⟩⟩, hS.none⟩
  ·
    obtain ⟨b, es, c, rfl, rfl, hR''⟩ := hPp.resolve_left fun h => c1 h.1
    have hb := hsp (b, .map es c) (by simp)
    refine wp_skip ?_
    refine then_n (hK2 _ _ ?_)
    refine wp_seq_k fun K5 hK5 => ?_
    refine wp_region_lit ?_
    refine sv' hF (wn rfl) rfl rfl (R.move (hF.ev rfl)) fun a hF => ?_
    refine sv' hF (wn rfl) rfl rfl (R.mkIfaceM Try.underlying96 (hF.ev rfl)) fun a hF => ?_
    refine so (wn rfl) (O.mapsClone rfl rfl hF (hF.evs rfl) hS hb fun nb a w hF hS => ?_)
    refine sv' hF (wn rfl) rfl rfl (R.assertM Try.underlying96 (hF.ev rfl)) fun a hF => ?_
    refine sv' hF (wn rfl) rfl rfl (R.assign (hF.ev rfl)) fun a hF => ?_
    refine s0 ?_
    refine then_n (hK5 _ _ ?_)
    refine wp_ret (hR _ _ _ _ _ hF (run_results Try.results89 (.t hF rfl (.nil))) ?_)
    exact ⟨_, [(nb, .map es c)], rfl, ⟨some nb, rfl, .inr ⟨nb, es, c, rfl, rfl, hR''⟩⟩, hS⟩

theorem copy_calls (bv : Nat) (V : Vau) (s : Seg) (w0 : World) (hV : VaultS bv V s) (ho : Own w0 s) : Ret Try.prog 37 [.pointer (some ⟨bv, 0, none⟩)] w0 [] (fun v s' => ∃ bn, v = .pointer (some ⟨bn, 0, none⟩) ∧ VaultS bn V s') := by
  refine fn_start Try.func37 rfl Try.ntmps37 rfl [(0, .pointer (some ⟨bv, 0, none⟩))] ⟨rfl, trivial⟩ ?_
  intro Q a hP hF hR hN
  have hS := St.enter ho
  refine wp_seq_k fun K1 hK1 => ?_
  refine wp_region_lit ?_
  refine sv' hF (wn rfl) rfl rfl (R.assign (hF.ev rfl)) fun a hF => ?_
  refine s0 ?_
  refine then_n (hK1 _ _ ?_)
  refine wp_seq_k fun K2 hK2 => ?_
  obtain ⟨bt, es, c, r, sp, rfl, hT, hPd, hL, hH⟩ := hV
  have hS := hS.openV .h
  refine wp_drawS hS [(0, 0), (1, 0), (2, 0), (3, 1), (5, 0), (6, 0), (7, 0), (8, 0), (9, 1), (12, 0), (13, 0), (14, 0), (15, 1), (4, 2), (10, 2), (11, 0), (16, 0), (17, 2), (18, 0)] mix (by kernel_rfl) (hP.then) fun w hS => ?_
  have hD := hS
  refine dq hF rfl (wn rfl) rfl rfl (fun w => R.move (hF.ev rfl)) fun a hF => ?_
  refine dq hF rfl (wn rfl) rfl rfl (fun w => R.nilCheck (hF.ev rfl)) fun a hF => ?_
  refine dq hF rfl (wn rfl) rfl rfl (fun w => R.fieldAddr (k := 0) Try.underlying100 rfl nz95 (hF.ev rfl) rfl) fun a hF => ?_
  refine dr hF rfl (wn rfl) rfl rfl hD (fun w hD => R.load one95 (hF.ev rfl) hD .h (rfl)) fun a hF => ?_
  refine dq hF rfl (wn rfl) rfl rfl (fun w => R.move (hF.ev rfl)) fun a hF => ?_
  refine dq hF rfl (wn rfl) rfl rfl (fun w => R.nilCheck (hF.ev rfl)) fun a hF => ?_
  refine dq hF rfl (wn rfl) rfl rfl (fun w => R.fieldAddr (k := 1) Try.underlying100 rfl nz98 (hF.ev rfl) rfl) fun a hF => ?_
  refine dq hF rfl (wn rfl) rfl rfl (fun w => R.fieldAddr (k := 0) Try.underlying98 rfl nz96 (hF.ev rfl) rfl) fun a hF => ?_
  refine dr hF rfl (wn rfl) rfl rfl hD (fun w hD => R.load one96 (hF.ev rfl) hD .h (rfl)) fun a hF => ?_
  refine dq hF rfl (wn rfl) rfl rfl (fun w => R.move (hF.ev rfl)) fun a hF => ?_
  refine dq hF rfl (wn rfl) rfl rfl (fun w => R.nilCheck (hF.ev rfl)) fun a hF => ?_
  refine dq hF rfl (wn rfl) rfl rfl (fun w => R.fieldAddr (k := 2) Try.underlying100 rfl nz29 (hF.ev rfl) rfl) fun a hF => ?_
  refine dr hF rfl (wn rfl) rfl rfl hD (fun w hD => R.loadA (cs := wc V.lock) agg29 (hF.ev rfl) hD .h sz29 rfl (getAt rfl)) fun a hF => ?_
  refine dl rfl (wn rfl) (O.call rfl rfl hF ent88 (hF.evs rfl) hS (clone95_calls bt es c _ (hS.get (.t .h))) fun v s7 a w hR hF hS => ⟨fun hD => hS.tail, ?_⟩)
  obtain ⟨nt, rfl, rfl⟩ := hR
  have hD := hS.tail
  refine dl rfl (wn rfl) (O.call rfl rfl hF ent89 (hF.evs rfl) hS (clone96_calls r sp V.paid _ hPd (fun p hp => (hS.one (.t (.t (.t .h)))).own p (by simpa using hp))) fun v s13 a w hR hF hS => ⟨fun hD => hS.tail.tail, ?_⟩)
  obtain ⟨r2, rfl, hP2⟩ := hR
  have hD := hS.tail.tail
  refine dq hF rfl (wn rfl) rfl rfl (fun w => R.buildStr (l := [_]) Try.underlying98 ze98 pl98 (hF.evp rfl) rfl) fun a hF => ?_
  refine dq hF rfl (wn rfl) rfl rfl (fun w => R.buildStr (l := [_, _, _, _, _, _]) Try.underlying100 ze100 pl100 (hF.evp rfl) rfl) fun a hF => ?_
  refine dl rfl (wn rfl) (O.box rfl rfl hF (hF.ev rfl) rfl hS fun b20 a w hF hS => ⟨fun hD => hS.tail.tail.tail, ?_⟩)
  have hD := hS.tail.tail.tail
  refine dq hF rfl (wn rfl) rfl rfl (fun w => R.assign (hF.ev rfl)) fun a hF => ?_
  refine d0 ?_
  refine then_n (hK2 _ _ ?_)
  refine wp_ret (hR _ _ _ _ _ hF (run_results Try.results37 (.t hF rfl (.nil))) ?_)
  have hS := hS.sel [3, 4, 5, 0, 2, 1] rfl rfl
  have hS := hS.flat (bs' := [(bv, Cel (.map (some bt) :: .map r :: wc V.lock) 100) :: (bt, .map es c) :: sp, (b20, Cel (.map (some nt) :: .map r2 :: wc V.lock) 100) :: (nt, .map es c) :: s13]) (by simp [selS])
  exact ⟨_, _, rfl, ⟨b20, rfl, nt, es, c, r2, s13, rfl, hT, hP2, hL, hH⟩, St.same hS ho⟩

end Go.Proofs.Ythgecfjpacebeaa
